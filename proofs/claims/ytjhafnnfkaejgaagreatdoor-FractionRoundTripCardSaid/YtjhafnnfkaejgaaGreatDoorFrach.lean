/- Package fraction: Print, Power. -/
import Derived.Laws.Concat
import Derived.Test.YtjhafnnfkaejgaaGreatDoorFracg
namespace Go.Proofs.YtjhafnnfkaejgaaGreatDoor
open Go.RowKit Num

theorem Parts_len {l l' : List UInt8} {i : Nat} (h1 : l.length ≤ i) (h2 : l'.length ≤ i) (hi : 1 ≤ i) : (fN (fv l l')).length ≤ i + 1 ∧ (canon ((fv l l').den : Int)).length ≤ i + 1 := by
  have h := bd_fv h1 h2 hi
  exact ⟨canon_len_le _ _ h.1, canon_len_le _ _ (by simpa using h.2)⟩
theorem str_add2 (a b : List UInt8) (h : a.length + b.length ≤ 1000000000) (w : World) : (Op.stringOp .add ⟨a.toArray⟩ ⟨b.toArray⟩).run Tryz.prog w = .ok (.string ⟨(a ++ b).toArray⟩) w := by
  rw [run_string_add_sum w ⟨a.toArray⟩ ⟨b.toArray⟩ (by show a.toArray.size + b.toArray.size ≤ _; simp; omega)]
  congr 2
/-- the text of a number -/
def printZ (z : Int) : List UInt8 := if z = 0 then [48] else canon z
theorem printL_canon (z : Int) : printL (canon z) = printZ z := by unfold printL printZ; rw [val_canon]
theorem printL_len (l : List UInt8) : (printL l).length ≤ l.length + 1 := by
  unfold printL; split
  · simp
  · exact canon_len_le _ _ (val_lt l)
def printQ (q : Rat) : List UInt8 := if q.den = 1 then printZ q.num else printZ q.num ++ 47 :: printZ (q.den : Int)

set_option maxHeartbeats 1000000 in
set_option maxRecDepth 100000 in
theorem Print_any (l l' : List UInt8) (w : World) (hl : l.length ≤ 100000) (hl' : l'.length ≤ 100000) (hG : Glob w) :
    Calls Tryz.prog 45 #[(Value.agg #[Value.string ⟨List.toArray l⟩, Value.string ⟨List.toArray l'⟩])] w fun e w' => e = .returned (.string ⟨(printQ (fv l l')).toArray⟩) ∧ Below w.heap.size w w' := by
  have hp : ∀ w : World, Glob w → _ := fun w hG => Parts_any l l' w (Nat.le_trans hl (by decide)) (Nat.le_trans hl' (by decide)) hG
  have hlen := Parts_len hl hl' (by decide)
  have hd := made_den (fv l l')
  obtain ⟨q, hq⟩ : ∃ q, q = fv l l' := ⟨_, rfl⟩
  simp only [← hq] at hp hlen hd ⊢
  have hpn : printL (fN q) = printZ q.num := printL_canon _
  have hpd : printL (canon (q.den : Int)) = printZ (q.den : Int) := printL_canon _
  obtain ⟨N, hN⟩ : ∃ N, N = fN q := ⟨_, rfl⟩
  obtain ⟨D, hD⟩ : ∃ D, D = canon (q.den : Int) := ⟨_, rfl⟩
  simp only [← hN, ← hD] at hp hlen hd hpn hpd
  unfold printQ
  rw [← hpn, ← hpd]
  have HP := Lib.hid hp
  clear hp hN hD hpn hpd hq
  by_cases h : q.den = 1
  · rw [if_pos h]
    have hD1 := hd.2 h
    subst hD1
    clear hd h
    go_enter Tryz.func45, Tryz.ntmps45
    go_wp2_with fail
    ((with_reducible refine (HP.out _ (by exact hG.below (below_alloc _ _))).mono ?_); rintro e w1 ⟨rfl, hb1⟩)
    have hb1 := bto (below_alloc _ _) hb1
    go_wp2_with fail
    ((with_reducible refine (iprint_any _ _ (by exact Nat.le_trans hlen.1 (by decide))).mono ?_); rintro e w2 ⟨rfl, hb2⟩)
    go_wp2
    go_ret
    exact ⟨rfl, bto hb1 hb2⟩
  · rw [if_neg h]
    have h1 : (D == [49]) = false := by rw [beq_eq_false_iff_ne]; exact fun e => h (hd.1 e)
    have hpl := printL_len N
    have hpl' := printL_len D
    have a1 := str_add2 (printL N) [47] (by rw [List.length_singleton]; omega)
    have a2 := str_add2 (printL N ++ [47]) (printL D) (by rw [List.length_append, List.length_singleton]; omega)
    clear hd h hpl hpl'
    go_enter Tryz.func45, Tryz.ntmps45
    go_wp2_with fail
    ((with_reducible refine (HP.out _ (by exact hG.below (below_alloc _ _))).mono ?_); rintro e w1 ⟨rfl, hb1⟩)
    have hb1 := bto (below_alloc _ _) hb1
    go_wp2_with fail
    ((with_reducible refine (iprint_any _ _ (by exact Nat.le_trans hlen.1 (by decide))).mono ?_); rintro e w2 ⟨rfl, hb2⟩)
    have hb2 := bto hb1 hb2
    go_wp2_with fail
    ((with_reducible refine (iprint_any _ _ (by exact Nat.le_trans hlen.2 (by decide))).mono ?_); rintro e w3 ⟨rfl, hb3⟩)
    have hb3 := bto hb2 hb3
    go_wp2
    go_ret
    refine ⟨?_, hb3⟩
    simp
end Go.Proofs.YtjhafnnfkaejgaaGreatDoor
