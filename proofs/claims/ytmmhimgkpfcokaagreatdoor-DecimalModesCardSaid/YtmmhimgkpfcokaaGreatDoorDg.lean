/- trancheref03: Long, LongFrac; what Compare says. -/
import Derived.Test.YtmmhimgkpfcokaaGreatDoorDf
namespace Go.Proofs.YtmmhimgkpfcokaaGreatDoor
open Go.RowKit Num
theorem cmpQ_lt {p q : Rat} (h : p < q) : cmpQ p q = -1 := by
  unfold cmpQ cmpZ
  have h1 : p - q < 0 := by grind
  have h2 : (p - q).num < 0 := by
    have := Rat.lt_iff (p - q) 0
    simpa using this.1 h1
  rw [if_pos h2]
theorem cmpQ_gt {p q : Rat} (h : q < p) : cmpQ p q = 1 := by
  unfold cmpQ cmpZ
  have h1 : 0 < p - q := by grind
  have h2 : 0 < (p - q).num := by
    have := Rat.lt_iff 0 (p - q)
    simpa using this.1 h1
  rw [if_neg (by omega), if_pos h2]
theorem cmpQ_self (p : Rat) : cmpQ p p = 0 := by unfold cmpQ; rw [Rat.sub_self]; rfl
theorem cmpQ_np {p q : Rat} (h : p ≤ q) : cmpQ p q ≤ 0 := by
  rcases Rat.le_iff_lt_or_eq.1 h with h | h
  · rw [cmpQ_lt h]; decide
  · rw [h, cmpQ_self]; decide
theorem cmpQ_nn {p q : Rat} (h : q ≤ p) : 0 ≤ cmpQ p q := by
  rcases Rat.le_iff_lt_or_eq.1 h with h | h
  · rw [cmpQ_gt h]; decide
  · rw [h, cmpQ_self]; decide
theorem le_cmpQ {p q : Rat} (h : cmpQ p q ≤ 0) : p ≤ q := by
  by_cases h1 : q < p
  · rw [cmpQ_gt h1] at h; exact absurd h (by decide)
  · exact Rat.not_lt.1 h1
theorem ge_cmpQ {p q : Rat} (h : 0 ≤ cmpQ p q) : q ≤ p := by
  by_cases h1 : p < q
  · rw [cmpQ_lt h1] at h; exact absurd h (by decide)
  · exact Rat.not_lt.1 h1
theorem cmpZ_le {a b : Int} (h : a ≤ b) : cmpZ a b ≤ 0 := by unfold cmpZ; split <;> (try split) <;> omega
theorem cmpZ_ge {a b : Int} (h : b ≤ a) : 0 ≤ cmpZ a b := by unfold cmpZ; split <;> (try split) <;> omega
theorem eLong (l : List UInt8) : Ret 31 #[.string ⟨l.toArray⟩] (.bool (decide (60 < l.length))) := fun w hG => by
  have hb := Below.refl w.heap.size w
  by_cases h : 60 < l.length
  · have e1 : decide (60 < l.length) = true := decide_eq_true h
    go_enter Tryz.func31, Tryz.ntmps31
    go_wp2
    go_ret
    exact ⟨by rw [e1]; first | done | rfl | (simp; omega) | simp_all, hb⟩
  · have e1 : decide (60 < l.length) = false := decide_eq_false h
    go_enter Tryz.func31, Tryz.ntmps31
    go_wp2
    go_ret
    exact ⟨by rw [e1]; first | done | rfl | (simp; omega) | simp_all, hb⟩
/-- the fraction is longer than examined, or not -/
def longB (l l' : List UInt8) : Bool := decide (60 < l.length) || decide (60 < l'.length)
theorem longB_f {l l' : List UInt8} (h : longB l l' = false) : l.length ≤ 60 ∧ l'.length ≤ 60 := by
  unfold longB at h
  simp at h; exact h
set_option maxHeartbeats 1000000 in
set_option maxRecDepth 100000 in
theorem eLongFrac (l l' : List UInt8) : Ret 47 #[(Value.agg #[Value.string ⟨List.toArray l⟩, Value.string ⟨List.toArray l'⟩])] (.bool (longB l l')) := fun w hG => by
  have c1 := eLong l
  have c2 := eLong l'
  have hb := below_alloc w (.cells #[.string ⟨l.toArray⟩, .string ⟨l'.toArray⟩] 32)
  have x1 := FBox.new w (.string ⟨l.toArray⟩) (.string ⟨l'.toArray⟩) 32
  unfold longB
  generalize decide (60 < l.length) = a at *
  generalize decide (60 < l'.length) = b at *
  have C1 := Lib.hid c1
  have C2 := Lib.hid c2
  clear c1 c2
  have q0 := x1.c0
  cases a
  · go_enter Tryz.func47, Tryz.ntmps47
    go_wp2_with fail
    ((with_reducible refine (C1.out.of hG hb).mono ?_); rintro e w1 ⟨rfl, hb1⟩)
    replace hb := bto hb hb1
    replace x1 := x1.below hb1
    have q1 := x1.c1
    clear q0
    go_wp2_with fail
    ((with_reducible refine (C2.out.of hG hb).mono ?_); rintro e w2 ⟨rfl, hb2⟩)
    go_wp2
    go_ret
    exact ⟨by first | done | rfl | simp, bto hb hb2⟩
  · go_enter Tryz.func47, Tryz.ntmps47
    go_wp2_with fail
    ((with_reducible refine (C1.out.of hG hb).mono ?_); rintro e w1 ⟨rfl, hb1⟩)
    go_wp2
    go_ret
    exact ⟨rfl, bto hb hb1⟩
end Go.Proofs.YtmmhimgkpfcokaaGreatDoor
