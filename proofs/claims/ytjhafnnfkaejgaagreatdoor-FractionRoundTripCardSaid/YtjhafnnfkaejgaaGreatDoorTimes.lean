/- (magnitude).times. -/
import Derived.Test.YtjhafnnfkaejgaaGreatDoorSingle
namespace Go.Proofs.YtjhafnnfkaejgaaGreatDoor
open Go.RowKit Num

/-- the row after the first i groups of the first factor: i + n' groups are worked out -/
def TimesAt (l l' rs : List Nat) (i : Nat) : Prop := rs.length = i + l'.length ∧ small rs ∧ gv rs = gv (l.take i) * gv l'
/-- inside: the first i groups, and k groups of the second factor with the group x -/
def TimesIn (l l' rs : List Nat) (i k x c : Nat) : Prop :=
  rs.length = i + l'.length ∧ small rs ∧ c < BASE ∧ gv rs + BASE ^ (i + k) * c = gv (l.take i) * gv l' + BASE ^ i * (x * gv (l'.take k))
theorem TimesAt.enter {l l' rs : List Nat} {i : Nat} (h : TimesAt l l' rs i) (x : Nat) : TimesIn l l' rs i 0 x 0 := by
  obtain ⟨h1, h2, h3⟩ := h
  exact ⟨h1, h2, by decide, by simp [h3, gv]⟩
theorem gv_set {l : List Nat} {k x : Nat} (h : l[k]? = some x) (y : Nat) : gv (l.set k y) + BASE ^ k * x = gv l + BASE ^ k * y := by
  obtain ⟨hk, rfl⟩ := List.getElem?_eq_some_iff.1 h
  induction l generalizing k with
  | nil => simp at hk
  | cons a l ih =>
    cases k with
    | zero => simp [gv]; omega
    | succ k =>
      simp only [List.set_cons_succ, gv, List.getElem_cons_succ, Nat.pow_succ]
      have hk' : k < l.length := by simpa using hk
      have := ih (k := k) hk' (List.getElem?_eq_getElem hk')
      have e1 : BASE ^ k * BASE * l[k] = BASE * (BASE ^ k * l[k]) := by rw [Nat.mul_comm (BASE ^ k) BASE, Nat.mul_assoc]
      have e2 : BASE ^ k * BASE * y = BASE * (BASE ^ k * y) := by rw [Nat.mul_comm (BASE ^ k) BASE, Nat.mul_assoc]
      rw [e1, e2]
      have h3 : BASE * (gv (l.set k y) + BASE ^ k * l[k]) = BASE * (gv l + BASE ^ k * y) := by rw [this]
      rw [Nat.mul_add, Nat.mul_add] at h3
      omega
theorem small_set {l : List Nat} {k y : Nat} (h : small l) (hy : y < BASE) : small (l.set k y) := by
  intro z hz
  rcases List.mem_or_eq_of_mem_set hz with h1 | h1
  · exact h z h1
  · omega
theorem mul_lt_base2 {x y : Nat} (hx : x < 1000000000) (hy : y < 1000000000) : x * y ≤ 999999999 * 999999999 := Nat.mul_le_mul (by omega) (by omega)
theorem TimesIn.step {l l' rs : List Nat} {i k x c o y : Nat} (h : TimesIn l l' rs i k x c) (ho : rs[i + k]? = some o) (hy : l'[k]? = some y) (hxb : x < BASE) (hyb : y < BASE) :
    TimesIn l l' (rs.set (i + k) ((c + (o + x * y)) % BASE)) i (k + 1) x ((c + (o + x * y)) / BASE) := by
  obtain ⟨h1, h2, h3, h4⟩ := h
  have hob : o < BASE := h2 o (List.mem_of_getElem? ho)
  have hxy := mul_lt_base2 hxb hyb
  refine ⟨by simp [h1], small_set h2 (Nat.mod_lt _ (by decide)), ?_, ?_⟩
  · apply Nat.div_lt_of_lt_mul; unfold BASE at *; omega
  · have hs := gv_set ho ((c + (o + x * y)) % BASE)
    rw [gv_take_of hy]
    have e1 : BASE ^ (i + (k + 1)) * ((c + (o + x * y)) / BASE) + BASE ^ (i + k) * ((c + (o + x * y)) % BASE) = BASE ^ (i + k) * (c + (o + x * y)) := by
      rw [show i + (k + 1) = (i + k) + 1 by omega, Nat.pow_succ, Nat.mul_assoc, ← Nat.mul_add, Nat.div_add_mod]
    have e2 : BASE ^ i * (x * (gv (l'.take k) + BASE ^ k * y)) = BASE ^ i * (x * gv (l'.take k)) + BASE ^ (i + k) * (x * y) := by
      rw [Nat.mul_add x, Nat.mul_add, Nat.pow_add, Nat.mul_assoc]
      congr 1
      rw [← Nat.mul_assoc x, Nat.mul_comm x, Nat.mul_assoc]
    have e3 : BASE ^ (i + k) * (c + (o + x * y)) = BASE ^ (i + k) * c + (BASE ^ (i + k) * o + BASE ^ (i + k) * (x * y)) := by rw [Nat.mul_add, Nat.mul_add]
    omega
theorem TimesIn.leave {l l' rs : List Nat} {i x c : Nat} (h : TimesIn l l' rs i l'.length x c) (hx : l[i]? = some x) : TimesAt l l' (rs ++ [c]) (i + 1) := by
  obtain ⟨h1, h2, h3, h4⟩ := h
  refine ⟨by simp [h1]; omega, small_snoc h2 h3, ?_⟩
  rw [gv_snoc, h1, h4, List.take_length, gv_take_of hx, Nat.add_mul, Nat.mul_assoc]

theorem zpad_at (rs : List Nat) (z k : Nat) (hk : rs.length = k) (hz : 0 < z) : (rs ++ List.replicate z 0)[k]? = some 0 := by
  rw [List.getElem?_append_right (by omega), hk, Nat.sub_self]
  obtain ⟨j, rfl⟩ : ∃ j, z = j + 1 := ⟨z - 1, by omega⟩
  simp [List.replicate_succ]
theorem gv_zeros (n : Nat) : gv (List.replicate n 0) = 0 := by
  induction n with
  | zero => rfl
  | succ n ih => rw [List.replicate_succ, gv, ih]; rfl
theorem zpad_set (rs : List Nat) (z k c : Nat) (hk : rs.length = k) : (rs ++ List.replicate (z + 1) 0).set k c = (rs ++ [c]) ++ List.replicate z 0 := by
  rw [List.set_append_right _ _ (by omega), hk, Nat.sub_self, List.replicate_succ]; simp
theorem zpad_skip (rs : List Nat) (z : Nat) : rs ++ List.replicate (z + 1) 0 = (rs ++ [0]) ++ List.replicate z 0 := by
  rw [List.replicate_succ]; simp

set_option maxHeartbeats 4000000 in
set_option maxRecDepth 100000 in
theorem times_any (A A' : Option Addr) (n c n' c' : Nat) (x y : Nat) (w : World) (base base' : Nat) (h : w.ownsRow base 95 1 (.slice A n c) n (U (grp x))) (h' : w.ownsRow base' 95 1 (.slice A' n' c') n' (U (grp y)))
    (hn : n ≤ 1000000000) (hn' : n' ≤ 1000000000) :
    Calls Tryz.prog 96 #[.slice A n c, .slice A' n' c'] w fun e w' => ∃ v, e = .returned v ∧ Mag w' w.heap.size v (x * y) ∧ Below w.heap.size w w' := by
  have HL := Lib.hid (own_len h)
  have HL' := Lib.hid (own_len h')
  have HH := Lib.hid h
  have HH' := Lib.hid h'
  obtain ⟨_, hc2⟩ := own_cap h
  obtain ⟨_, hc2'⟩ := own_cap h'
  unfold maxLen at hc2 hc2'
  clear h h'
  have hmk : ∀ W : World, (Instr.makeSlice 68 (.int .i64 ((n : Int) + n')) (.int .i64 ((n : Int) + n'))).run Tryz.prog W = .ok (.slice (some ⟨W.heap.size, 0, none⟩) (n + n') (n + n')) (W.alloc (zrow (n + n'))) := fun W => by
    have := make_u64 68 Tryz.underlying68 (n + n') (n + n') ((n + n' : Nat) : Int) rfl (Nat.le_refl _) (by omega) W
    rw [Int.natCast_add] at this
    exact this
  go_enter Tryz.func96, Tryz.ntmps96
  go_wp2
  clear hmk
  go_loopw [19] (fun iv wr => ∃ (i : Nat) (rs : List Nat), i ≤ n ∧ iv = .int .i64 (i : Int) ∧ Hid (TimesAt (grp x) (grp y) rs i) ∧ Row wr w.heap.size (rs ++ List.replicate (n - i) 0) ∧ Below w.heap.size w wr) (fun iv _ => n - (intOf iv).toNat)
  case atStart =>
    refine ⟨0, List.replicate n' 0, by omega, rfl, ⟨by simp [HL'.out], fun x hx => ?_, ?_⟩, ?_, (Below.refl _ _).alloc (Nat.le_refl _) _⟩
    · have := List.eq_of_mem_replicate hx; subst this; decide
    · rw [gv_zeros]; simp [gv]
    · rw [Nat.sub_zero, List.replicate_append_replicate, Nat.add_comm n' n]
      exact zrow_row w (n + n')
  case round =>
    obtain ⟨i, rs, hi, rfl, HT, hrow, hbw⟩ := hrel
    by_cases hin : i < n
    · obtain ⟨g, xi, rfl, hxi, hgl, hcell⟩ := own_at_below HH.out hbw (k := i) hin
      have hxb : xi < 1000000000 := grp_small x xi (List.mem_of_getElem? hxi)
      have HX := Lib.hid hxi
      have HR := Lib.hid hrow
      clear hxi hrow
      go_wp2
      obtain ⟨wo, hwo⟩ : ∃ wo : World, wo = wr := ⟨_, rfl⟩
      have hbo := hbw
      rw [← hwo] at hbo
      clear hwo
      go_loopw [8, 26] (fun cv kv wr => ∃ (k c : Nat) (rs : List Nat), k ≤ n' ∧ kv = .int .i64 (k : Int) ∧ cv = .int .u64 (c : Int) ∧ c < 1000000000 ∧ Hid (TimesIn (grp x) (grp y) rs i k xi c) ∧ Row wr w.heap.size (rs ++ List.replicate (n - i) 0) ∧ Below w.heap.size w wr) (fun _ kv _ => n' - (intOf kv).toNat)
      case atStart => exact ⟨0, 0, rs, by omega, rfl, rfl, by omega, HT.out.enter xi, HR.out, hbw⟩
      case round =>
        clear hcell hbw HR HT
        obtain ⟨k, cy, rs, hk, rfl, rfl, hcy, HT, hrow, hbw⟩ := hrel
        have hcell : wr.cell? ⟨g, i, none⟩ = some (.int .u64 (xi : Int)) := by
          obtain ⟨g2, x2, h1, h2, h3, h4⟩ := own_at_below HH.out hbw (k := i) hin
          injection h1 with h1
          injection h1 with h1
          subst h1
          rw [HX.out] at h2
          injection h2 with h2
          subst h2
          exact h4
        have hrl := HT.out.1
        rw [HL'.out] at hrl
        by_cases hkn : k < n'
        · obtain ⟨g', yk, rfl, hyk, hgl', hcell'⟩ := own_at_below HH'.out hbw hkn
          have hyb : yk < 1000000000 := grp_small y yk (List.mem_of_getElem? hyk)
          obtain ⟨o, ho⟩ : ∃ o, rs[i + k]? = some o := ⟨_, List.getElem?_eq_getElem (by omega)⟩
          have hob : o < 1000000000 := HT.out.2.1 o (List.mem_of_getElem? ho)
          have hco := hrow.cell (k := i + k) (x := o) (by rw [List.getElem?_append_left (by omega)]; exact ho)
          have hfo := hrow.frozen (i + k)
          have hxy := mul_lt_base2 hxb hyb
          have HS := Lib.hid (HT.out.step ho hyk hxb hyb)
          obtain ⟨p, hp⟩ : ∃ p, p = xi * yk := ⟨_, rfl⟩
          have hpc : (xi : Int) * yk = (p : Int) := by rw [hp]; rfl
          rw [← hp] at hxy
          have HPP := Lib.hid hp
          have HR := Lib.hid hrow
          clear hyk ho hrow hp hrl
          go_wp2
          go_roundw
          case rel =>
            refine ⟨k + 1, (cy + (o + p)) / 1000000000, rs.set (i + k) ((cy + (o + p)) % 1000000000), by omega, by go_num, congrArg (Value.int .u64) (by omega), by omega, by rw [HPP.out]; exact HS.out, ?_, hbw.setCell (p := ⟨w.heap.size, i + k, none⟩) (Nat.le_refl _) _⟩
            have h1 := HR.out.setI (i + k) ((cy + (o + p)) % 1000000000) (z := ((cy : Int) + (o + p)) % 1000000000) (by omega)
            rw [List.set_append_left _ _ (by have := HT.out.1; rw [HL'.out] at this; omega)] at h1
            exact h1
          case measure => simp [intOf]; omega
        · obtain rfl : k = n' := by omega
          have HV := Lib.hid (TimesIn.leave (x := xi) (c := cy) (by rw [HL'.out]; exact HT.out) HX.out)
          by_cases hn0 : k = 0
          · subst hn0
            have hcy0 : cy = 0 := by
              have h1 := HT.out.2.2.2
              have hy0 : grp y = [] := List.eq_nil_of_length_eq_zero HL'.out
              rw [hy0] at h1
              simp only [List.take_nil, gv, Nat.mul_zero, Nat.add_zero] at h1
              have h2 : BASE ^ i * cy = 0 := by omega
              rcases Nat.mul_eq_zero.1 h2 with h3 | h3
              · exact absurd h3 (Nat.ne_of_gt (Nat.pow_pos (by decide)))
              · exact h3
            subst hcy0
            go_wp2
            go_roundw
            case rel =>
              refine ⟨i + 1, rs ++ [0], by omega, by go_num, HV.out, ?_, hbw⟩
              rw [show n - i = (n - (i + 1)) + 1 by omega, zpad_skip] at hrow
              exact hrow
            case measure => simp [intOf]; omega
          · have hco := hrow.cell (zpad_at rs (n - i) (i + k) hrl (by omega))
            have hfo := hrow.frozen (i + k)
            go_wp2
            go_roundw
            case rel =>
              refine ⟨i + 1, rs ++ [cy], by omega, by go_num, HV.out, ?_, hbw.setCell (p := ⟨w.heap.size, i + k, none⟩) (Nat.le_refl _) _⟩
              have h1 := hrow.set_ (i + k) cy
              rw [show n - i = (n - (i + 1)) + 1 by omega, zpad_set rs _ (i + k) cy hrl] at h1
              exact h1
            case measure => simp [intOf]; omega
    · obtain rfl : i = n := by omega
      rw [Nat.sub_self, List.replicate_zero, List.append_nil] at hrow
      obtain ⟨h1, h2, h3⟩ := HT.out
      rw [HL'.out] at h1
      rw [List.take_of_length_le (by rw [HL.out]; omega), gv_grp, gv_grp] at h3
      have hown := hrow.own (base := w.heap.size) (n := i + n') (Nat.le_refl _) (by omega) (by unfold maxLen; omega)
      rw [List.take_of_length_le (by omega), h1] at hown
      have HQ : Hid (cutZ rs = grp (x * y)) := by show _ = _; rw [cutZ_eq rs h2, h3]
      clear h1 h2 h3 hrow
      go_wp2_with (go_at_call 99; refine (cut_any _ _ _ rs _ w.heap.size hown).mono ?_; rintro e w3 ⟨rfl, rfl⟩)
      go_ret
      exact ⟨_, rfl, mag_of (own_cut hown) HQ.out, hbw⟩
end Go.Proofs.YtjhafnnfkaejgaaGreatDoor
