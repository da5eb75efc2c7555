/- Rows of payments: cloned, written. -/
import Derived.Shelf.SlicesE.Clone
import Derived.Test.YtolbojchdlojnaaGreatDoorWn
namespace Go.Proofs
open Go.Shelf
def Tryz.clonePay_ren : Go.Shelf.Ren := ⟨fun | 41 => 53 | n => n, fun | 22 => 28 | 23 => 27 | 4 => 4 | n => n, fun | n => n⟩
theorem Tryz.clonePay : Go.Proofs.SlLaysE0.n41 Tryz.prog Tryz.clonePay_ren := {
  mixed := by kernel_rfl
  f41 := ⟨Tryz.f53.name, by decide, Tryz.func53.trans (congrArg some (by kernel_rfl))⟩
  t4 := Tryz.underlying4
  a4 := Tryz.isAgg4
  z4 := Tryz.sizeOf4
  v4 := Tryz.zeroValue4
  t22 := Tryz.underlying28
  a22 := Tryz.isAgg28
  z22 := Tryz.sizeOf28
  v22 := Tryz.zeroValue28 }
end Go.Proofs
namespace Go.Proofs.YtolbojchdlojnaaGreatDoor
open Go.RowKit Num
def rowsP (xs : List Pay) : List Value := xs.flatMap (fun x => [.int .i64 x.per, .string ⟨x.amt.toArray⟩])
theorem rowsP_cons (x : Pay) (xs : List Pay) : rowsP (x :: xs) = .int .i64 x.per :: .string ⟨x.amt.toArray⟩ :: rowsP xs := rfl
theorem rowsP_len : ∀ xs : List Pay, (rowsP xs).length = xs.length * 2
  | [] => rfl
  | x :: xs => by rw [rowsP_cons, List.length_cons, List.length_cons, rowsP_len xs, List.length_cons]; omega
theorem rowsP_app (xs ys : List Pay) : rowsP (xs ++ ys) = rowsP xs ++ rowsP ys := List.flatMap_append
theorem rowsP_one (xs : List Pay) : ∀ u ∈ rowsP xs, u.oneCell' = true := by
  intro u hu
  obtain ⟨x, -, hx⟩ := List.mem_flatMap.1 hu
  simp only [List.mem_cons, List.not_mem_nil, or_false] at hx
  rcases hx with rfl | rfl <;> rfl
theorem rowsP_at : ∀ {xs : List Pay} {i : Nat} {x : Pay}, xs[i]? = some x → (rowsP xs)[i * 2]? = some (.int .i64 x.per) ∧ (rowsP xs)[i * 2 + 1]? = some (.string ⟨x.amt.toArray⟩)
  | [], i, x, h => by simp at h
  | y :: xs, 0, x, h => by
    have : y = x := by simpa using h
    subst this; exact ⟨rfl, rfl⟩
  | y :: xs, i + 1, x, h => by
    obtain ⟨h1, h2⟩ := rowsP_at (xs := xs) (i := i) (x := x) (by simpa using h)
    rw [rowsP_cons, show (i + 1) * 2 = i * 2 + 1 + 1 by omega]
    exact ⟨by simpa using h1, by simpa using h2⟩
theorem rowsP_get : ∀ {xs : List Pay} {j : Nat} {u : Value}, (rowsP xs)[j]? = some u → ∃ x, xs[j / 2]? = some x ∧ u = if j % 2 = 0 then .int .i64 x.per else .string ⟨x.amt.toArray⟩
  | [], j, u, h => by simp [rowsP] at h
  | y :: xs, 0, u, h => by
    rw [rowsP_cons] at h
    exact ⟨y, rfl, by simpa using h.symm⟩
  | y :: xs, 1, u, h => by
    rw [rowsP_cons] at h
    exact ⟨y, rfl, by simpa using h.symm⟩
  | y :: xs, j + 2, u, h => by
    rw [rowsP_cons] at h
    obtain ⟨x, h1, h2⟩ := rowsP_get (xs := xs) (j := j) (by simpa using h)
    refine ⟨x, ?_, ?_⟩
    · rw [show (j + 2) / 2 = j / 2 + 1 by omega]; simpa using h1
    · rw [show (j + 2) % 2 = j % 2 by omega]; exact h2
theorem rowsP_set : ∀ {xs : List Pay} {i : Nat} {x : Pay} (a : List UInt8), xs[i]? = some x → (rowsP xs).set (i * 2 + 1) (.string ⟨a.toArray⟩) = rowsP (xs.set i ⟨x.per, a⟩)
  | [], i, x, a, h => by simp at h
  | y :: xs, 0, x, a, h => by
    have : y = x := by simpa using h
    subst this; rfl
  | y :: xs, i + 1, x, a, h => by
    have h1 := rowsP_set (xs := xs) (i := i) (x := x) a (by simpa using h)
    rw [rowsP_cons, show (i + 1) * 2 + 1 = (i * 2 + 1) + 1 + 1 by omega, List.set_cons_succ, List.set_cons_succ, h1]; rfl
/-- a block whose first cells are payments -/
def PRow (w : World) (g : Nat) (qs : List Pay) : Prop := ∃ cur : Array Value, w.heap[g]? = some (.cells cur 27 (0, 0)) ∧ cur.toList.take (qs.length * 2) = rowsP qs ∧ qs.length * 2 ≤ cur.size
section
variable {w w' : World} {g b i : Nat} {qs : List Pay} {u : Value}
theorem PRow.lt (h : PRow w g qs) : g < w.heap.size := by obtain ⟨cur, h, -⟩ := h; exact (Array.getElem?_eq_some_iff.1 h).1
theorem PRow.below (h : PRow w g qs) (hb : Below w.heap.size w w') : PRow w' g qs := by
  have hl := h.lt
  obtain ⟨cur, h, h2⟩ := h
  exact ⟨cur, (hb.block g hl).trans h, h2⟩
theorem PRow.far (h : PRow w g qs) (hn : g ≠ b) : PRow (w.setCell ⟨b, i, none⟩ u) g qs := by
  obtain ⟨cur, h, h2⟩ := h
  exact ⟨cur, (Below.heap_setCell w ⟨b, i, none⟩ u g hn).trans h, h2⟩
theorem PRow.cells {x : Pay} (h : PRow w g qs) (hx : qs[i]? = some x) : w.cell? ⟨g, i * 2, none⟩ = some (.int .i64 x.per) ∧ w.cell? ⟨g, i * 2 + 1, none⟩ = some (.string ⟨x.amt.toArray⟩) := by
  obtain ⟨cur, hh, ht, hs⟩ := h
  have hi := (List.getElem?_eq_some_iff.1 hx).1
  obtain ⟨h1, h2⟩ := rowsP_at hx
  constructor
  · rw [blk_cell hh, ← h1, ← ht, List.getElem?_take, if_pos (by omega), Array.getElem?_toList]
  · rw [blk_cell hh, ← h2, ← ht, List.getElem?_take, if_pos (by omega), Array.getElem?_toList]
theorem PRow.free (h : PRow w g qs) (j : Nat) : w.frozen? ⟨g, j, none⟩ = false := by
  obtain ⟨cur, hh, -⟩ := h
  exact blk_frozen hh j
theorem PRow.payAt (h : PRow w g qs) : PayAt w (some ⟨g, 0, none⟩) qs := fun i t ht => by
  obtain ⟨h1, h2⟩ := h.cells ht
  exact ⟨g, 0, rfl, h.lt, by rw [Nat.zero_add]; exact h1, by rw [Nat.zero_add]; exact h2⟩
theorem PRow.set {x : Pay} (h : PRow w g qs) (hx : qs[i]? = some x) (a : List UInt8) : PRow (w.setCell ⟨g, i * 2 + 1, none⟩ (.string ⟨a.toArray⟩)) g (qs.set i ⟨x.per, a⟩) := by
  obtain ⟨cur, hh, ht, hs⟩ := h
  refine ⟨cur.setIfInBounds (i * 2 + 1) (.string ⟨a.toArray⟩), ?_, ?_, by simpa using hs⟩
  · obtain ⟨hlt, hk⟩ := Array.getElem?_eq_some_iff.1 hh
    show (w.heap.modify g _)[g]? = _
    rw [Array.getElem?_eq_getElem (by rw [Array.size_modify]; exact hlt), Array.getElem_modify_self, hk]
    simp
  · rw [List.length_set, Array.toList_setIfInBounds, List.take_set, ht, rowsP_set a hx]
end
theorem own_prow {w : World} {base n c : Nat} {A : Option Addr} {qs : List Pay} (h : w.ownsRow base 27 2 (.slice A n c) n (rowsP qs)) (hn : n = qs.length) (h0 : 0 < n) : ∃ g, A = some ⟨g, 0, none⟩ ∧ base ≤ g ∧ PRow w g qs := by
  rcases h.2 with ⟨hv, h1⟩ | ⟨g, cap, cur, hv, hb, hh, hcap, _, hsz, htk⟩
  · omega
  · injection hv with h1 _ h3
    subst h1 h3
    refine ⟨g, rfl, hb, cur, hh, by rw [← hn]; exact htk, by omega⟩
theorem info_pay : (Tryz.prog.info? 27).map (fun i => (i.zero, i.size, i.bytes)) = some (some (.agg #[.int .i64 0, .string ⟨#[]⟩]), 2, 24) := by kernel_rfl
set_option maxRecDepth 100000 in
theorem cloneP (A : Option Addr) (ps : List Pay) (n c : Nat) (w : World) (hn : ps.length = n) (h0 : 0 < n) (hn2 : n ≤ 1000000) (h : PayAt w A ps) :
    Calls Tryz.prog 53 #[.slice A n c] w fun e w' => ∃ g cp, e = .returned (.slice (some ⟨g, 0, none⟩) n cp) ∧ w.heap.size ≤ g ∧ PRow w' g ps ∧ Below w.heap.size w w' := by
  obtain ⟨x0, hx0⟩ : ∃ x, ps[0]? = some x := ⟨_, List.getElem?_eq_getElem (by omega)⟩
  obtain ⟨b, o, rfl, hbs, -⟩ := h 0 x0 hx0
  obtain ⟨i0, e0, e1, e2, e3⟩ := info_parts info_pay
  refine (AnyE.slices_Clone Tryz.clonePay i0 _ 2 24 e0 e1 e2 e3 rfl (by decide) Tryz.sizeOf27 b o n c (rowsP ps) w (by rw [rowsP_len, hn]) (by unfold maxLen; omega) (by omega) (fun j u hu => ?_) (rowsP_one ps)).mono ?_
  · obtain ⟨x, h1, h2⟩ := rowsP_get hu
    obtain ⟨b', o', hA, -, hc1, hc2⟩ := h (j / 2) x h1
    cases hA
    by_cases hj : j % 2 = 0
    · rw [if_pos hj] at h2
      rw [h2, show o + j = o + j / 2 * 2 by omega]; exact hc1
    · rw [if_neg hj] at h2
      rw [h2, show o + j = o + j / 2 * 2 + 1 by omega]; exact hc2
  · rintro e w' ⟨v, rfl, hown, -, hb⟩
    have hown' : w'.ownsRow w.heap.size 27 2 v n (rowsP ps) := hown
    obtain ⟨B, cp, rfl⟩ : ∃ A c, v = .slice A n c := by
      rcases hown'.2 with ⟨hv, h1⟩ | ⟨g, cap, cur, hv, -⟩
      · omega
      · exact ⟨_, _, hv⟩
    obtain ⟨g, rfl, hg, hr⟩ := own_prow hown' hn.symm h0
    exact ⟨g, cp, rfl, hg, hr, hb⟩
end Go.Proofs.YtolbojchdlojnaaGreatDoor
