/- trancheref10: Check. -/
import Derived.Test.YtmjglcgdcclinaaGreatDoorIf
namespace Go.Proofs.YtmjglcgdcclinaaGreatDoor
open Go.RowKit Num
theorem can_of_num {l l' : List UInt8} (h : numE l l' = 0) : isCan l l' := by
  unfold numE at h
  split at h
  · assumption
  · exact absurd h (by decide)
theorem sg_nil {l : List UInt8} (h : ¬ sg l = 0) : (l == []) = false := by rw [beq_eq_false_iff_ne]; rintro rfl; exact h rfl
theorem sg_zero {l l' : List UInt8} (hc : isCan l l') (h : sg l = 0) : (l == []) = true ∧ (l' == []) = true := by
  obtain ⟨h1, h2⟩ := (zero_can hc).2 h
  exact ⟨by rw [h1]; rfl, by rw [h2]; rfl⟩
theorem dayE_t {d : Int} (h : dayB d = true) : dayE d = 0 := by unfold dayE; rw [if_pos h]
theorem dayE_f {d : Int} (h : ¬ dayB d = true) : dayE d = 13 := by unfold dayE; rw [if_neg h]
theorem jSg {l l' : List UInt8} (hc : isCan l l') (hl : l.length ≤ 60) (hl' : l'.length ≤ 60) : Ret 44 #[(Value.agg #[Value.string ⟨List.toArray l⟩, Value.string ⟨List.toArray l'⟩])] (.int .i64 (sg l)) := jSign (Nat.le_trans hl (by decide)) (Nat.le_trans hl' (by decide)) (sign_can hc)
end Go.Proofs.YtmjglcgdcclinaaGreatDoor
