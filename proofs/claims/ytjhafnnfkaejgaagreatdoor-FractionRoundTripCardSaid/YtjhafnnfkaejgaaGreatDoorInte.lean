/- Package integer: Check, Print, Parse, Compare, Div. -/
import Derived.Test.YtjhafnnfkaejgaaGreatDoorIntd
namespace Go.Proofs.YtjhafnnfkaejgaaGreatDoor
open Go.RowKit Num

def printL (l : List UInt8) : List UInt8 := if val l = 0 then [48] else canon (val l)
theorem icheck_any (l : List UInt8) (w : World) (hl : l.length ≤ 1000000) :
    Calls Tryz.prog 38 #[.string ⟨l.toArray⟩] w fun e w' => e = .returned (.int .i64 (if l = canon (val l) then 0 else 1)) ∧ Below w.heap.size w w' := by
  by_cases h : l = canon (val l)
  · rw [if_pos h]
    have h1 : (l == canon (val l)) = true := by rw [beq_iff_eq]; exact h
    have HE := Lib.hid h
    clear h
    go_enter Tryz.func38, Tryz.ntmps38
    go_wp2_with (go_at_call 66; refine (canonical_any l _ hl).mono ?_; rintro e w1 ⟨rfl, hb1⟩)
    go_ret
    exact ⟨rfl, hb1⟩
  · rw [if_neg h]
    have h1 : (l == canon (val l)) = false := by rw [beq_eq_false_iff_ne]; exact h
    have HE := Lib.hid h
    clear h
    go_enter Tryz.func38, Tryz.ntmps38
    go_wp2_with (go_at_call 66; refine (canonical_any l _ hl).mono ?_; rintro e w1 ⟨rfl, hb1⟩)
    go_ret
    exact ⟨rfl, hb1⟩
theorem iprint_any (l : List UInt8) (w : World) (hl : l.length ≤ 1000000) :
    Calls Tryz.prog 75 #[.string ⟨l.toArray⟩] w fun e w' => e = .returned (.string ⟨(printL l).toArray⟩) ∧ Below w.heap.size w w' := by
  unfold printL
  by_cases h : val l = 0
  · rw [if_pos h]
    have h1 : canon (val l) = [] := by rw [h]; rfl
    have HE := Lib.hid h
    clear h
    go_enter Tryz.func75, Tryz.ntmps75
    go_wp2_with (go_at_call 66; refine (canonical_any l _ hl).mono ?_; rintro e w1 ⟨rfl, hb1⟩)
    go_ret
    exact ⟨rfl, hb1⟩
  · rw [if_neg h]
    have h1 : (canon (val l)).isEmpty = false := by rw [List.isEmpty_eq_false_iff]; intro e; exact h ((canon_eq_nil _).1 e)
    have h2 : ¬ canon (val l) = [] := fun e => h ((canon_eq_nil _).1 e)
    have HE := Lib.hid h
    clear h
    go_enter Tryz.func75, Tryz.ntmps75
    go_wp2_with (go_at_call 66; refine (canonical_any l _ hl).mono ?_; rintro e w1 ⟨rfl, hb1⟩)
    go_ret
    exact ⟨rfl, hb1⟩
/-- what Parse returns -/
def parseI (s : List UInt8) : List UInt8 × Int := if 65536 < s.length then ([], 4) else if printL s = s then (canon (val s), 0) else ([], 3)
theorem iparse_any (l : List UInt8) (w : World) (hl : l.length ≤ 1000000) :
    Calls Tryz.prog 73 #[.string ⟨l.toArray⟩] w fun e w' => e = .returned (.tuple #[.string ⟨(parseI l).1.toArray⟩, .int .i64 (parseI l).2]) ∧ Below w.heap.size w w' := by
  unfold parseI
  by_cases hL : 65536 < l.length
  · rw [if_pos hL]
    go_enter Tryz.func73, Tryz.ntmps73
    go_wp2_with fail
    go_ret2
    exact ⟨rfl, Below.refl _ _⟩
  · rw [if_neg hL]
    by_cases h : printL l = l
    · rw [if_pos h]
      have h1 : (printL l == l) = true := by rw [beq_iff_eq]; exact h
      have HE := Lib.hid h
      clear h
      go_enter Tryz.func73, Tryz.ntmps73
      go_wp2_with (first
        | (go_at_call 75; refine (iprint_any l _ hl).mono ?_; rintro e w1 ⟨rfl, hb1⟩)
        | (go_at_call 66; refine (canonical_any l _ hl).mono ?_; rintro e w2 ⟨rfl, hb2⟩))
      go_ret2
      exact ⟨rfl, bto hb1 hb2⟩
    · rw [if_neg h]
      have h1 : (printL l == l) = false := by rw [beq_eq_false_iff_ne]; exact h
      have HE := Lib.hid h
      clear h
      go_enter Tryz.func73, Tryz.ntmps73
      go_wp2_with (first
        | (go_at_call 75; refine (iprint_any l _ hl).mono ?_; rintro e w1 ⟨rfl, hb1⟩))
      go_ret2
      exact ⟨rfl, hb1⟩

/-- the sign of a comparison -/
def cmpZ (a b : Int) : Int := if a < b then -1 else if b < a then 1 else 0
theorem cmp_neg2 {l l' : List UInt8} (h : negB l ≠ negB l') : cmpZ (val l) (val l') = if negB l then -1 else 1 := by
  rw [negB_val, negB_val] at h
  rw [negB_val]
  unfold cmpZ
  by_cases h1 : val l < 0 <;> by_cases h2 : val l' < 0 <;> simp [h1, h2] at h ⊢ <;> omega
theorem cmp_same {l l' : List UInt8} (h : negB l = negB l') : cmpZ (val l) (val l') = max (-1) (min (if negB l then -cmpG (val l).natAbs (val l').natAbs else cmpG (val l).natAbs (val l').natAbs) 1) := by
  have h1 := cmpG_neg (val l).natAbs (val l').natAbs
  have h2 := cmpG_pos (val l).natAbs (val l').natAbs
  rw [negB_val, negB_val] at h
  rw [negB_val]
  have h3 : (val l < 0 ↔ val l' < 0) := by simpa using h
  unfold cmpZ
  generalize cmpG (val l).natAbs (val l').natAbs = c at *
  by_cases h4 : val l < 0
  · have h5 := h3.1 h4
    simp only [h4, decide_true, if_true]
    split
    · have : 0 < c := h2.2 (by omega)
      omega
    · split
      · have : c < 0 := h1.2 (by omega)
        omega
      · have a1 : ¬ c < 0 := fun h => by have := h1.1 h; omega
        have a2 : ¬ 0 < c := fun h => by have := h2.1 h; omega
        omega
  · have h5 : ¬ val l' < 0 := fun h => h4 (h3.2 h)
    simp only [h4, decide_false, Bool.false_eq_true, if_false]
    split
    · have : c < 0 := h1.2 (by omega)
      omega
    · split
      · have : 0 < c := h2.2 (by omega)
        omega
      · have a1 : ¬ c < 0 := fun h => by have := h1.1 h; omega
        have a2 : ¬ 0 < c := fun h => by have := h2.1 h; omega
        omega
theorem cmpG_bound {m n b : Nat} (hm : (grp m).length ≤ b) (hn : (grp n).length ≤ b) (hb : 1 ≤ b) : -(b : Int) ≤ cmpG m n ∧ cmpG m n ≤ b := by
  unfold cmpG
  split
  · split
    · omega
    · split <;> omega
  · omega

set_option maxHeartbeats 1000000 in
set_option maxRecDepth 100000 in
theorem icompare_any (l l' : List UInt8) (w : World) (hl : l.length ≤ 100000000) (hl' : l'.length ≤ 100000000) :
    Calls Tryz.prog 41 #[.string ⟨l.toArray⟩, .string ⟨l'.toArray⟩] w fun e w' => e = .returned (.int .i64 (cmpZ (val l) (val l'))) ∧ Below w.heap.size w w' := by
  have hcb := cmpG_bound (m := (val l).natAbs) (n := (val l').natAbs) (b := 100000000) (Nat.le_trans (len_val l) hl) (Nat.le_trans (len_val l') hl') (by omega)
  obtain ⟨cg, hcg⟩ : ∃ cg, cg = cmpG (val l).natAbs (val l').natAbs := ⟨_, rfl⟩
  rw [← hcg] at hcb
  obtain ⟨hcb1, hcb2⟩ := hcb
  have HCG := Lib.hid hcg
  clear hcg
  rcases hbl : negB l with _ | _ <;> rcases hbl' : negB l' with _ | _
  all_goals
    have HBL := Lib.hid hbl
    have HBL' := Lib.hid hbl'
    go_enter Tryz.func41, Tryz.ntmps41
    go_wp2_with fail
    ((with_reducible refine (read_var l _ hl).mono ?_); rintro e w1 ⟨A, n, c, rfl, hn, ho1, hb1⟩)
    go_wp2_with fail
    ((with_reducible refine (read_var l' _ hl').mono ?_); rintro e w2 ⟨A', n', c', rfl, hn', ho2, hb2⟩)
    go_wp2_with fail
    have hbx := bto (below_alloc w2 (.cells #[.bool (negB l), .slice A n c] 70)) (below_alloc _ (.cells #[.bool (negB l'), .slice A' n' c'] 70))
    rw [hbl, hbl'] at hbx
    clear hbl hbl'
    ((with_reducible refine (compare_any A A' n c n' c' _ _ _ _ _ (by exact own_below ho1 (bto hb2 hbx)) (by exact own_below ho2 hbx)).mono ?_); rintro e w3 ⟨he, kd, rfl⟩; rw [← HCG.out] at he; subst he)
    go_wp2_with fail
    go_ret
    refine ⟨ret_int ?_, bto hb1 (bto hb2 (bto hbx (below_drewN _ kd)))⟩
    first
      | (rw [cmp_same (by rw [HBL.out, HBL'.out]), HBL.out, ← HCG.out]; simp; done)
      | (rw [cmp_same (by rw [HBL.out, HBL'.out]), HBL.out, ← HCG.out]; rfl)
      | (rw [cmp_neg2 (by rw [HBL.out, HBL'.out]; decide), HBL.out]; rfl)
end Go.Proofs.YtjhafnnfkaejgaaGreatDoor
