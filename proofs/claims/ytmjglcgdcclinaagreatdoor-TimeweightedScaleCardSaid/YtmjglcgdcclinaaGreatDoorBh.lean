/- Small facts for the walks. -/
import Derived.Test.YtmjglcgdcclinaaGreatDoorBk
namespace Go.Proofs.YtmjglcgdcclinaaGreatDoor
open Go.RowKit Num
theorem all_snoc' {p : UInt8 → Bool} {r : List UInt8} {k : Nat} {x : UInt8} (h : (r.take k).all p = true) (hx : r[k]? = some x) (h1 : p x = true) : (r.take (k + 1)).all p = true := by
  obtain ⟨hk, rfl⟩ := List.getElem?_eq_some_iff.1 hx
  rw [List.take_succ_eq_append_getElem hk, List.all_append, h]
  simp [h1]
theorem all_no' {p : UInt8 → Bool} {r : List UInt8} {k : Nat} {x : UInt8} (hx : r[k]? = some x) (h1 : p x = false) : r.all p = false := by
  rw [List.all_eq_false]; exact ⟨x, List.mem_of_getElem? hx, by simp [h1]⟩
theorem retb {a b : Bool} (h : a = b) : Ending.returned (.bool a) = .returned (.bool b) := by rw [h]
theorem bneq {a b : Int} (h : (a == b) = true) : (a != b) = false := by simp [bne, h]
theorem bneq' {a b : Int} (h : (a == b) = false) : (a != b) = true := by simp [bne, h]
theorem not_true_b {b : Bool} (h : ¬ b = true) : b = false := by cases b <;> simp_all
theorem reti {a b : Int} (h : a = b) : Ending.returned (.int .i64 a) = .returned (.int .i64 b) := by rw [h]
/-- a block that is known whole -/
def Blk (w : World) (b : Nat) (cs : Array Value) : Prop := ∃ t, w.heap[b]? = some (.cells cs t (0, 0))
section
variable {w w' : World} {b : Nat} {cs : Array Value}
theorem Blk.new (w : World) (cs : Array Value) (t : TypeId) : Blk (w.alloc (.cells cs t)) w.heap.size cs := ⟨t, heap_alloc_new w _⟩
theorem Blk.below (h : Blk w b cs) (hb : Below w.heap.size w w') : Blk w' b cs := by
  obtain ⟨t, h⟩ := h
  exact ⟨t, (hb.block b (Array.getElem?_eq_some_iff.1 h).1).trans h⟩
theorem Blk.c (h : Blk w b cs) (i : Nat) : w.cell? ⟨b, i, none⟩ = cs[i]? := by
  obtain ⟨t, h⟩ := h
  exact blk_cell h i
theorem Blk.f (h : Blk w b cs) (i : Nat) : w.frozen? ⟨b, i, none⟩ = false := by
  obtain ⟨t, h⟩ := h
  exact blk_frozen h i
theorem Blk.lt (h : Blk w b cs) : b < w.heap.size := by
  obtain ⟨t, h⟩ := h
  exact (Array.getElem?_eq_some_iff.1 h).1
end
theorem intbeq {a b : Int} (h : a = b) : (a == b) = true := by rw [beq_iff_eq]; exact h
theorem intbne {a b : Int} (h : ¬ a = b) : (a == b) = false := by rw [beq_eq_false_iff_ne]; exact h
theorem FBox.setNe {W : World} {b c : Nat} {u v : Value} (h : FBox W b u v) (hn : b ≠ c) (x y : Value) : FBox ((W.setCell ⟨c, 0, none⟩ x).setCell ⟨c, 1, none⟩ y) b u v := by
  have c0 := h.c0; have c1 := h.c1; have f0 := h.f0; have f1 := h.f1; have lt := h.lt
  refine ⟨by simp [go_sem, c0], by simp [go_sem, c1], by simp [go_sem, f0], by simp [go_sem, f1], by simp [lt]⟩
end Go.Proofs.YtmjglcgdcclinaaGreatDoor
