/- trancheref10: Alive. -/
import Derived.Test.YtmjglcgdcclinaaGreatDoorIs
namespace Go.Proofs.YtmjglcgdcclinaaGreatDoor
open Go.RowKit Num
theorem any_bad {xs : List Ins} {k : Nat} {x : Ins} (hx : xs[k]? = some x) (h : ¬ chkE x = 0) : xs.any isBad = true := by
  rw [List.any_eq_true]; exact ⟨x, List.mem_of_getElem? hx, by unfold isBad; simpa using h⟩
theorem own_empty (w : World) (base : Nat) (hb : base ≤ w.heap.size) : (w.alloc (.cells #[] 9)).ownsRow base 9 1 (.slice (some ⟨w.heap.size, 0, none⟩) 0 0) 0 (Sv []) :=
  ⟨rfl, .inr ⟨w.heap.size, 0, #[], rfl, hb, heap_alloc_new w _, Nat.le_refl _, by unfold maxLen; omega, rfl, rfl⟩⟩
end Go.Proofs.YtmjglcgdcclinaaGreatDoor
