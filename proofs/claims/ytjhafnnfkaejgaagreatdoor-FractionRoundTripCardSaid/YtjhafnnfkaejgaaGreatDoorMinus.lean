/- slices.Clone at magnitudes; (magnitude).minus. -/
import Derived.Test.YtjhafnnfkaejgaaGreatDoorPlus
namespace Go.Proofs.YtjhafnnfkaejgaaGreatDoor
open Go.RowKit Num

set_option maxHeartbeats 1000000 in
set_option maxRecDepth 100000 in
theorem clone_any (A : Option Addr) (n c : Nat) (l : List Nat) (w : World) (base : Nat) (h : w.ownsRow base 95 1 (.slice A n c) n (U l)) (hn : n ≤ 1000000000) :
    Calls Tryz.prog 111 #[.slice A n c] w fun e w' => ∃ v, e = .returned v ∧ w'.ownsRow w.heap.size 95 1 v n (U l) ∧ Below w.heap.size w w' := by
  obtain ⟨i0, hi, hz0, hz1, hz2⟩ := info_parts info_u64
  have hl := own_len h
  have q : ∀ (w : World) (a : Option Addr) (n c n' c' : Nat), (binOp .eql 68 (.slice a n c) (.slice none n' c')).run Tryz.prog w = .ok (.bool a.isNone) w := fun w a n c n' c' => Lib.run_eql_slice_nil w _ _ a n c n' c' Tryz.underlying68
  rcases h.2 with ⟨hv, h0⟩ | ⟨g, cap, cur, hv, hbg, hh, _⟩
  · injection hv with h1 h2 h3
    subst h1 h2 h3
    have : l = [] := List.eq_nil_of_length_eq_zero (by omega)
    subst this
    clear hi hz0 hz1 hz2 i0 hl h0 h
    go_enter Tryz.func111, Tryz.ntmps111
    go_wp2
    go_ret
    exact ⟨_, rfl, World.ownsRow_nil _ _ _ _, Below.refl _ _⟩
  · injection hv with hA _ hc'
    subst hA hc'
    have hgl := (Array.getElem?_eq_some_iff.1 hh).1
    have hcell : ∀ j u, (U l)[j]? = some u → (w.alloc (.cells #[] 95)).cell? ((⟨g, 0, none⟩ : Addr).add j) = some u := by
      intro j u hj
      rw [Lib.add_plain, Nat.zero_add, World.cell?_alloc_lt _ _ _ hgl, h.cellAt j (by have := (List.getElem?_eq_some_iff.1 hj).1; simp at this; omega)]
      exact hj
    have HC := Lib.hid hcell
    have HN : Hid ((U l).length = n * 1) := by show _ = _; simp [hl]
    clear hcell h hh hl
    go_enter Tryz.func111, Tryz.ntmps111
    go_wp2_with (at_builtin; refine wpList_append_own _ rfl _ _ 68 rfl w.heap.size 95 i0 (.int .u64 0) 1 8 Tryz.underlying68 hi hz0 hz1 hz2 rfl (by decide) _ _ _ rfl (World.ownsRow_made w #[] 0 (Nat.le_refl _) (Nat.zero_le _) (by simp)) ⟨g, 0, none⟩ n c (U l) rfl HN.out HC.out (U_one l) ?c3 ?c4 ?c5 ?_)
    case c3 => unfold maxLen; omega
    case c4 => omega
    intro v' w1 hown hgrow _
    have hb : Below w.heap.size w w1 := ((Below.refl _ w).alloc (Nat.le_refl _) _).grown hgrow (by simp) (by intro k hk; simp [Value.ownBlock] at hk; omega)
    have hown2 : w1.ownsRow w.heap.size 95 1 v' n (U l) := by simpa using hown
    clear hown hgrow
    go_wp2
    go_ret
    exact ⟨v', rfl, hown2, hb⟩

theorem own_set {w : World} {base n c g : Nat} {l : List Nat} (h : w.ownsRow base 95 1 (.slice (some ⟨g, 0, none⟩) n c) n (U l)) (k y : Nat) {z : Int} (hz : z = y) :
    (w.setCell ⟨g, k, none⟩ (.int .u64 z)).ownsRow base 95 1 (.slice (some ⟨g, 0, none⟩) n c) n (U (l.set k y)) := by
  subst hz
  have := h.stored k (.int .u64 (y : Int))
  simpa [U, List.map_set] using this.1

/-- what holds after k groups of a difference -/
def MinusAt (l l' ps : List Nat) (k b : Nat) : Prop := ps.length = k ∧ small ps ∧ gv ps + gv (l'.take k) = gv (l.take k) + BASE ^ k * b
theorem MinusAt.step {l l' ps : List Nat} {k b x r b' : Nat} (h : MinusAt l l' ps k b) (hx : l[k]? = some x) (y : Nat) (hy : l'[k]? = some y ∨ (l'.length ≤ k ∧ y = 0)) (hr : r + (b + y) = x + BASE * b') (hrb : r < BASE) : MinusAt l l' (ps ++ [r]) (k + 1) b' := by
  obtain ⟨h1, h2, h3⟩ := h
  refine ⟨by simp [h1], small_snoc h2 hrb, ?_⟩
  have e : BASE ^ k * r + (BASE ^ k * b + BASE ^ k * y) = BASE ^ k * x + BASE ^ k * BASE * b' := by
    rw [← Nat.mul_add, ← Nat.mul_add, hr, Nat.mul_add, Nat.mul_assoc]
  rw [gv_snoc, h1, gv_take_of hx, Nat.pow_succ]
  rcases hy with hy | ⟨hl, rfl⟩
  · rw [gv_take_of hy]; omega
  · rw [gv_take_all hl]; omega
theorem MinusAt.fin {l l' ps : List Nat} {k b x y : Nat} (h : MinusAt l l' ps k b) (hl : l = grp x) (hl' : l' = grp y) (hk : l.length = k) (hk' : l'.length ≤ k) (hxy : y ≤ x) : cutZ ps = grp (x - y) := by
  obtain ⟨h1, h2, h3⟩ := h
  rw [List.take_of_length_le (by omega), List.take_of_length_le (by omega), hl, hl', gv_grp, gv_grp] at h3
  have h4 := gv_lt ps h2
  rw [h1] at h4
  have hb : b = 0 := by
    rcases Nat.eq_zero_or_pos b with h | h
    · exact h
    · have : BASE ^ k * 1 ≤ BASE ^ k * b := Nat.mul_le_mul_left _ h
      omega
  subst hb
  rw [cutZ_eq ps h2]
  congr 1
  omega

set_option maxHeartbeats 2000000 in
set_option maxRecDepth 100000 in
theorem minus_any (A A' : Option Addr) (n c n' c' : Nat) (x y : Nat) (w : World) (base base' : Nat) (h : w.ownsRow base 95 1 (.slice A n c) n (U (grp x))) (h' : w.ownsRow base' 95 1 (.slice A' n' c') n' (U (grp y)))
    (hn : n ≤ 1000000000) (hxy : y ≤ x) :
    Calls Tryz.prog 87 #[.slice A n c, .slice A' n' c'] w fun e w' => ∃ v, e = .returned v ∧ Mag w' w.heap.size v (x - y) ∧ Below w.heap.size w w' := by
  have hl := own_len h
  have hl' := own_len h'
  have hnn : n' ≤ n := by have := grp_len_mono y x hxy; omega
  obtain ⟨_, hc2'⟩ := own_cap h'
  unfold maxLen at hc2'
  have HL := Lib.hid hl
  have HL' := Lib.hid hl'
  have HH := Lib.hid h
  have HH' := Lib.hid h'
  clear hl hl' h h'
  go_enter Tryz.func87, Tryz.ntmps87
  go_wp2_with (go_at_call 111; refine (clone_any A n c (grp x) _ base HH.out hn).mono ?_; rintro e w2 ⟨v, rfl, hown, hb2⟩; obtain ⟨B, cb, rfl⟩ := own_form hown)
  obtain ⟨hcb1, hcb2⟩ := own_cap hown
  unfold maxLen at hcb2
  go_loopw [6, 13] (fun cv i wr => ∃ (k br : Nat) (ps : List Nat), k ≤ n ∧ i = .int .i64 k ∧ cv = .int .u64 (br : Int) ∧ br ≤ 1 ∧ Hid (MinusAt (grp x) (grp y) ps k br) ∧ wr.ownsRow w.heap.size 95 1 (.slice B n cb) n (U (ps ++ ((grp x).drop k ++ []))) ∧ Below w.heap.size w wr) (fun _ i _ => n - (intOf i).toNat)
  case atStart => exact ⟨0, 0, [], by omega, rfl, rfl, by omega, ⟨rfl, fun x hx => by simp at hx, by simp [gv]⟩, by simpa using hown, hb2⟩
  case round =>
    clear hown hb2
    obtain ⟨k, br, ps, hk, rfl, rfl, hbr, HP, hown, hbw⟩ := hrel
    by_cases hkn : k < n
    · obtain ⟨g, xk, rfl, hxk0, hbg, hgl, hcell, hfr⟩ := own_at hown (k := k) hkn
      have hxk : (grp x)[k]? = some xk := by
        obtain ⟨xk', hxk'⟩ : ∃ xk, (grp x)[k]? = some xk := ⟨_, List.getElem?_eq_getElem (by rw [HL.out]; exact hkn)⟩
        have := row_at (t := []) HP.out.1 hxk'
        rw [this] at hxk0
        rw [hxk', hxk0]
      have hxb : xk < 1000000000 := grp_small x xk (List.mem_of_getElem? hxk)
      have HX := Lib.hid hxk
      have HO := Lib.hid hown
      clear hxk hown hxk0
      by_cases hkn' : k < n'
      · obtain ⟨g', yk, rfl, hyk, hgl', hcell'⟩ := own_at_below HH'.out hbw hkn'
        have HY := Lib.hid hyk
        have hyb : yk < 1000000000 := grp_small y yk (List.mem_of_getElem? hyk)
        have hne : ¬ g' = g := by omega
        have hne' : ¬ g = g' := by omega
        clear hyk
        by_cases hlt : xk < br + yk
        · go_wp2
          go_roundw
          case rel =>
            refine ⟨k + 1, 1, ps ++ [xk + 1000000000 - (br + yk)], by omega, by go_num, rfl, by omega, HP.out.step HX.out yk (.inl HY.out) (by unfold BASE; omega) (by unfold BASE; omega), ?_, (hbw.setCell (p := ⟨g, k, none⟩) hbg _).setCell (p := ⟨g, k, none⟩) hbg _⟩
            have h1 := own_set (own_set HO.out k (xk + 1000000000) (z := (xk : Int) + 1000000000) (by omega)) k (xk + 1000000000 - (br + yk)) (z := (xk : Int) + 1000000000 - ((br : Int) + yk)) (by omega)
            rw [List.set_set, row_set HP.out.1 (by rw [HL.out]; omega)] at h1
            exact h1
          case measure => simp [intOf]; omega
        · go_wp2
          go_roundw
          case rel =>
            refine ⟨k + 1, 0, ps ++ [xk - (br + yk)], by omega, by go_num, rfl, by omega, HP.out.step HX.out yk (.inl HY.out) (by unfold BASE; omega) (by unfold BASE; omega), ?_, hbw.setCell (p := ⟨g, k, none⟩) hbg _⟩
            have h1 := own_set HO.out k (xk - (br + yk)) (z := (xk : Int) - ((br : Int) + yk)) (by omega)
            rw [row_set HP.out.1 (by rw [HL.out]; omega)] at h1
            exact h1
          case measure => simp [intOf]; omega
      · by_cases hlt : xk < br
        · go_wp2
          go_roundw
          case rel =>
            refine ⟨k + 1, 1, ps ++ [xk + 1000000000 - (br)], by omega, by go_num, rfl, by omega, HP.out.step HX.out 0 (.inr ⟨by rw [HL'.out]; omega, rfl⟩) (by unfold BASE; omega) (by unfold BASE; omega), ?_, (hbw.setCell (p := ⟨g, k, none⟩) hbg _).setCell (p := ⟨g, k, none⟩) hbg _⟩
            have h1 := own_set (own_set HO.out k (xk + 1000000000) (z := (xk : Int) + 1000000000) (by omega)) k (xk + 1000000000 - (br)) (z := (xk : Int) + 1000000000 - ((br : Int))) (by omega)
            rw [List.set_set, row_set HP.out.1 (by rw [HL.out]; omega)] at h1
            exact h1
          case measure => simp [intOf]; omega
        · go_wp2
          go_roundw
          case rel =>
            refine ⟨k + 1, 0, ps ++ [xk - (br)], by omega, by go_num, rfl, by omega, HP.out.step HX.out 0 (.inr ⟨by rw [HL'.out]; omega, rfl⟩) (by unfold BASE; omega) (by unfold BASE; omega), ?_, hbw.setCell (p := ⟨g, k, none⟩) hbg _⟩
            have h1 := own_set HO.out k (xk - (br)) (z := (xk : Int) - ((br : Int))) (by omega)
            rw [row_set HP.out.1 (by rw [HL.out]; omega)] at h1
            exact h1
          case measure => simp [intOf]; omega
    · obtain rfl : k = n := by omega
      have hd : (grp x).drop k = [] := List.drop_of_length_le (by rw [HL.out]; omega)
      have e : ps ++ ((grp x).drop k ++ []) = ps := by rw [hd]; simp
      rw [e] at hown
      clear hd e
      go_wp2_with (go_at_call 99; refine (cut_any B k cb _ _ w.heap.size hown).mono ?_; rintro e w3 ⟨rfl, rfl⟩)
      go_ret
      have hfin := HP.out.fin rfl rfl HL.out (by rw [HL'.out]; omega) hxy
      exact ⟨_, rfl, mag_of (own_cut hown) hfin, hbw⟩
end Go.Proofs.YtjhafnnfkaejgaaGreatDoor
