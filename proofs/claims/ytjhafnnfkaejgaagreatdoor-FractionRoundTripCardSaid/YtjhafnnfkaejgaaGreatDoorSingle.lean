/- (magnitude).single: division by one group. -/
import Derived.Test.YtjhafnnfkaejgaaGreatDoorMinus
namespace Go.Proofs.YtjhafnnfkaejgaaGreatDoor
open Go.RowKit Num

theorem zrow_set (k : Nat) (qs : List Nat) (y : Nat) : (List.replicate (k + 1) 0 ++ qs).set k y = List.replicate k 0 ++ (y :: qs) := by
  rw [List.replicate_succ', List.append_assoc, List.set_append_right _ _ (by simp)]
  simp
theorem zrow_at (k : Nat) (qs : List Nat) : (List.replicate (k + 1) 0 ++ qs)[k]? = some 0 := by
  rw [List.getElem?_append_left (by simp)]
  simp
/-- what holds where the groups from k on are divided -/
def DivAt (l qs : List Nat) (d k r : Nat) : Prop := qs.length + k = l.length ∧ small qs ∧ r < d ∧ gv qs * d + r = gv (l.drop k)
theorem DivAt.step {l qs : List Nat} {d k r x : Nat} (h : DivAt l qs d (k + 1) r) (hx : l[k]? = some x) (hxb : x < BASE) : DivAt l ((r * BASE + x) / d :: qs) d k ((r * BASE + x) % d) ∧ (r * BASE + x) / d < BASE := by
  obtain ⟨h1, h2, h3, h4⟩ := h
  obtain ⟨hk, he⟩ := List.getElem?_eq_some_iff.1 hx
  have hq : (r * BASE + x) / d < BASE := by
    apply Nat.div_lt_of_lt_mul
    have : (r + 1) * BASE ≤ d * BASE := Nat.mul_le_mul_right _ h3
    rw [Nat.add_mul] at this
    omega
  refine ⟨⟨by simp; omega, ?_, Nat.mod_lt _ (by omega), ?_⟩, hq⟩
  · intro y hy
    rcases List.mem_cons.1 hy with rfl | hy
    · exact hq
    · exact h2 y hy
  · rw [gv_drop l k hk, he, gv, ← h4]
    have := Nat.div_add_mod (r * BASE + x) d
    rw [Nat.add_mul, Nat.mul_assoc, Nat.mul_add]
    have e1 : (r * BASE + x) / d * d = d * ((r * BASE + x) / d) := Nat.mul_comm _ _
    have e2 : BASE * r = r * BASE := Nat.mul_comm _ _
    omega

set_option maxHeartbeats 2000000 in
set_option maxRecDepth 100000 in
theorem single_any (A : Option Addr) (n c : Nat) (m d : Nat) (w : World) (base : Nat) (h : w.ownsRow base 95 1 (.slice A n c) n (U (grp m))) (hn : n ≤ 1000000000) (hd0 : 1 ≤ d) (hd1 : d ≤ 1000000000) :
    Calls Tryz.prog 110 #[.slice A n c, .int .u64 (d : Int)] w fun e w' => ∃ v, e = .returned (.tuple #[v, .int .u64 ((m % d : Nat) : Int)]) ∧ Mag w' w.heap.size v (m / d) ∧ Below w.heap.size w w' := by
  have hl := own_len h
  have HL := Lib.hid hl
  have HH := Lib.hid h
  obtain ⟨hc1, hc2⟩ := own_cap h
  unfold maxLen at hc2
  clear hl h
  have hmk := fun W => make_u64 68 Tryz.underlying68 n n (n : Int) rfl (Nat.le_refl _) (by omega) W
  go_enter Tryz.func110, Tryz.ntmps110
  go_wp2
  clear hmk
  go_loopw [7, 8] (fun rv i wr => ∃ (k r : Nat) (qs : List Nat), k ≤ n ∧ i = .int .i64 ((k : Int) - 1) ∧ rv = .int .u64 (r : Int) ∧ r < d ∧ Hid (DivAt (grp m) qs d k r) ∧ Row wr w.heap.size (List.replicate k 0 ++ qs) ∧ Below w.heap.size w wr) (fun _ i _ => (intOf i + 1).toNat)
  case atStart =>
    refine ⟨n, 0, [], Nat.le_refl _, rfl, rfl, by omega, ⟨by simp [HL.out], fun x hx => by simp at hx, by omega, ?_⟩, by simpa using zrow_row w n, (Below.refl _ _).alloc (Nat.le_refl _) _⟩
    rw [List.drop_of_length_le (by rw [HL.out]; omega)]; simp [gv]
  case round =>
    obtain ⟨k, r, qs, hk, rfl, rfl, hr, HD, hrow, hbw⟩ := hrel
    by_cases hk0 : k = 0
    · subst hk0
      rw [List.replicate_zero, List.nil_append] at hrow
      obtain ⟨h1, h2, h3, h4⟩ := HD.out
      rw [List.drop_zero, gv_grp] at h4
      have hown := hrow.own (base := w.heap.size) (n := n) (Nat.le_refl _) (by have := HL.out; omega) (by have := HL.out; unfold maxLen; omega)
      have e1 : qs.length = n := by have := HL.out; omega
      rw [List.take_of_length_le (by omega), e1] at hown
      have hq : gv qs = m / d := by rw [← h4, Nat.mul_comm, Nat.mul_add_div (by omega), Nat.div_eq_of_lt h3, Nat.add_zero]
      have hr' : r = m % d := by rw [← h4, Nat.mul_comm, Nat.mul_add_mod, Nat.mod_eq_of_lt h3]
      have HQ : Hid (cutZ qs = grp (m / d)) := by show _ = _; rw [cutZ_eq qs h2, hq]
      have HR := Lib.hid hr'
      clear h1 h2 h4 hq hr' e1 hrow
      go_wp2_with (go_at_call 99; refine (cut_any _ n n qs _ w.heap.size hown).mono ?_; rintro e w3 ⟨rfl, rfl⟩)
      go_ret2
      refine ⟨_, ret2 rfl (by rw [← HR.out]; rfl), mag_of (own_cut hown) HQ.out, hbw⟩
    · obtain ⟨j, rfl⟩ : ∃ j, k = j + 1 := ⟨k - 1, by omega⟩
      obtain ⟨g, xk, rfl, hxk, hgl, hcell⟩ := own_at_below HH.out hbw (k := j) (by omega)
      have hxb : xk < 1000000000 := grp_small m xk (List.mem_of_getElem? hxk)
      obtain ⟨hstep, hq⟩ := HD.out.step hxk hxb
      have hcell2 := hrow.cell (zrow_at j qs)
      have hfr2 := hrow.frozen j
      have hqc : ((r : Int) * 1000000000 + xk) / d = (((r * 1000000000 + xk) / d : Nat) : Int) := by rw [Int.natCast_ediv]; rfl
      have hrc : ((r : Int) * 1000000000 + xk) % d = (((r * 1000000000 + xk) % d : Nat) : Int) := by rw [Int.natCast_emod]; rfl
      have HS := Lib.hid hstep
      have HR := Lib.hid hrow
      have HQC := Lib.hid hqc
      have HRC := Lib.hid hrc
      have hne : ¬ g = w.heap.size := by omega
      clear hstep hrow hxk hq hqc hrc
      go_wp2
      go_roundw
      case rel =>
        refine ⟨j, (r * 1000000000 + xk) % d, (r * 1000000000 + xk) / d :: qs, by omega, rfl, congrArg (Value.int .u64) HRC.out, Nat.mod_lt _ (by omega), HS.out, ?_, hbw.setCell (p := ⟨w.heap.size, j, none⟩) (Nat.le_refl _) _⟩
        have h1 := HR.out.setI j ((r * 1000000000 + xk) / d) HQC.out
        rw [zrow_set] at h1
        exact h1
      case measure => simp [intOf]
end Go.Proofs.YtjhafnnfkaejgaaGreatDoor
