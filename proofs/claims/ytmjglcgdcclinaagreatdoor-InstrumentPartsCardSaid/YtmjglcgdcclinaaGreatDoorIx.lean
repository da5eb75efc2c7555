/- slices.Clone at instruments. -/
import Derived.Shelf.SlicesE.Clone
import Derived.Test.YtmjglcgdcclinaaGreatDoorIv
namespace Go.Proofs
open Go.Shelf
def Tryz.cloneIns_ren : Go.Shelf.Ren := ⟨fun | 41 => 19 | n => n, fun | 22 => 22 | 23 => 34 | 4 => 4 | n => n, fun | n => n⟩
theorem Tryz.cloneIns : Go.Proofs.SlLaysE0.n41 Tryz.prog Tryz.cloneIns_ren := {
  mixed := by kernel_rfl
  f41 := ⟨Tryz.f19.name, by decide, Tryz.func19.trans (congrArg some (by kernel_rfl))⟩
  t4 := Tryz.underlying4
  a4 := Tryz.isAgg4
  z4 := Tryz.sizeOf4
  v4 := Tryz.zeroValue4
  t22 := Tryz.underlying22
  a22 := Tryz.isAgg22
  z22 := Tryz.sizeOf22
  v22 := Tryz.zeroValue22 }
end Go.Proofs
namespace Go.Proofs.YtmjglcgdcclinaaGreatDoor
open Go.RowKit Num
/-- the cells of instruments, one behind the other -/
def rowsI (xs : List Ins) : List Value := xs.flatMap (fun x => (#[Value.string ⟨List.toArray x.id⟩, Value.int .i64 x.kind, Value.string ⟨List.toArray x.cur⟩, Value.int .i64 x.places, Value.int .i64 x.issued, Value.int .i64 x.matures, Value.string ⟨List.toArray x.fn⟩, Value.string ⟨List.toArray x.fd⟩, Value.string ⟨List.toArray x.cn⟩, Value.string ⟨List.toArray x.cd⟩, Value.int .i64 x.months, Value.int .i64 x.count, Value.string ⟨List.toArray x.other⟩, Value.string ⟨List.toArray x.sn⟩, Value.string ⟨List.toArray x.sd⟩]).toList)
theorem rowsI_cons (x : Ins) (xs : List Ins) : rowsI (x :: xs) = (#[Value.string ⟨List.toArray x.id⟩, Value.int .i64 x.kind, Value.string ⟨List.toArray x.cur⟩, Value.int .i64 x.places, Value.int .i64 x.issued, Value.int .i64 x.matures, Value.string ⟨List.toArray x.fn⟩, Value.string ⟨List.toArray x.fd⟩, Value.string ⟨List.toArray x.cn⟩, Value.string ⟨List.toArray x.cd⟩, Value.int .i64 x.months, Value.int .i64 x.count, Value.string ⟨List.toArray x.other⟩, Value.string ⟨List.toArray x.sn⟩, Value.string ⟨List.toArray x.sd⟩]).toList ++ rowsI xs := rfl
theorem rowsI_len : ∀ xs : List Ins, (rowsI xs).length = xs.length * 15
  | [] => rfl
  | x :: xs => by rw [rowsI_cons, List.length_append, rowsI_len xs, List.length_cons]; simp; omega
theorem rowsI_get : ∀ {xs : List Ins} {j : Nat} {u : Value}, (rowsI xs)[j]? = some u → ∃ x, xs[j / 15]? = some x ∧ (#[Value.string ⟨List.toArray x.id⟩, Value.int .i64 x.kind, Value.string ⟨List.toArray x.cur⟩, Value.int .i64 x.places, Value.int .i64 x.issued, Value.int .i64 x.matures, Value.string ⟨List.toArray x.fn⟩, Value.string ⟨List.toArray x.fd⟩, Value.string ⟨List.toArray x.cn⟩, Value.string ⟨List.toArray x.cd⟩, Value.int .i64 x.months, Value.int .i64 x.count, Value.string ⟨List.toArray x.other⟩, Value.string ⟨List.toArray x.sn⟩, Value.string ⟨List.toArray x.sd⟩])[j % 15]? = some u
  | [], j, u, h => by simp [rowsI] at h
  | x :: xs, j, u, h => by
    rw [rowsI_cons] at h
    by_cases hj : j < 15
    · rw [List.getElem?_append_left (by simpa using hj)] at h
      refine ⟨x, by rw [Nat.div_eq_of_lt hj]; rfl, ?_⟩
      rw [Nat.mod_eq_of_lt hj, ← Array.getElem?_toList]; exact h
    · rw [List.getElem?_append_right (by simpa using Nat.le_of_not_lt hj)] at h
      obtain ⟨y, h1, h2⟩ := rowsI_get (xs := xs) (by simpa using h)
      refine ⟨y, ?_, ?_⟩
      · rw [show j / 15 = (j - 15) / 15 + 1 by omega, List.getElem?_cons_succ]; exact h1
      · rw [show j % 15 = (j - 15) % 15 by omega]; exact h2
theorem rowsI_one (xs : List Ins) : ∀ u ∈ rowsI xs, u.oneCell' = true := by
  intro u hu
  obtain ⟨x, -, hx⟩ := List.mem_flatMap.1 hu
  simp only [List.mem_cons, List.not_mem_nil, or_false] at hx
  rcases hx with rfl | rfl | rfl | rfl | rfl | rfl | rfl | rfl | rfl | rfl | rfl | rfl | rfl | rfl | rfl <;> rfl
theorem ICells.get {w : World} {b o : Nat} {x : Ins} (h : ICells w b o x) {r : Nat} {u : Value} (hr : (#[Value.string ⟨List.toArray x.id⟩, Value.int .i64 x.kind, Value.string ⟨List.toArray x.cur⟩, Value.int .i64 x.places, Value.int .i64 x.issued, Value.int .i64 x.matures, Value.string ⟨List.toArray x.fn⟩, Value.string ⟨List.toArray x.fd⟩, Value.string ⟨List.toArray x.cn⟩, Value.string ⟨List.toArray x.cd⟩, Value.int .i64 x.months, Value.int .i64 x.count, Value.string ⟨List.toArray x.other⟩, Value.string ⟨List.toArray x.sn⟩, Value.string ⟨List.toArray x.sd⟩])[r]? = some u) : w.cell? ⟨b, o + r, none⟩ = some u := by
  have hlt : r < 15 := by
    have := (Array.getElem?_eq_some_iff.1 hr).1
    simpa using this
  have hc : r = 0 ∨ r = 1 ∨ r = 2 ∨ r = 3 ∨ r = 4 ∨ r = 5 ∨ r = 6 ∨ r = 7 ∨ r = 8 ∨ r = 9 ∨ r = 10 ∨ r = 11 ∨ r = 12 ∨ r = 13 ∨ r = 14 := by omega
  rcases hc with rfl | rfl | rfl | rfl | rfl | rfl | rfl | rfl | rfl | rfl | rfl | rfl | rfl | rfl | rfl
  · rw [Nat.add_zero, h.c0]; exact hr
  · rw [h.c1]; exact hr
  · rw [h.c2]; exact hr
  · rw [h.c3]; exact hr
  · rw [h.c4]; exact hr
  · rw [h.c5]; exact hr
  · rw [h.c6]; exact hr
  · rw [h.c7]; exact hr
  · rw [h.c8]; exact hr
  · rw [h.c9]; exact hr
  · rw [h.c10]; exact hr
  · rw [h.c11]; exact hr
  · rw [h.c12]; exact hr
  · rw [h.c13]; exact hr
  · rw [h.c14]; exact hr
theorem rowsI_at {xs : List Ins} {i : Nat} {x : Ins} (h : xs[i]? = some x) {r : Nat} (hr : r < 15) : (rowsI xs)[i * 15 + r]? = (#[Value.string ⟨List.toArray x.id⟩, Value.int .i64 x.kind, Value.string ⟨List.toArray x.cur⟩, Value.int .i64 x.places, Value.int .i64 x.issued, Value.int .i64 x.matures, Value.string ⟨List.toArray x.fn⟩, Value.string ⟨List.toArray x.fd⟩, Value.string ⟨List.toArray x.cn⟩, Value.string ⟨List.toArray x.cd⟩, Value.int .i64 x.months, Value.int .i64 x.count, Value.string ⟨List.toArray x.other⟩, Value.string ⟨List.toArray x.sn⟩, Value.string ⟨List.toArray x.sd⟩])[r]? := by
  induction xs generalizing i with
  | nil => simp at h
  | cons y xs ih =>
    rw [rowsI_cons]
    cases i with
    | zero =>
      have : y = x := by simpa using h
      subst this
      rw [Nat.zero_mul, Nat.zero_add, List.getElem?_append_left (by simpa using hr), Array.getElem?_toList]
    | succ i =>
      rw [List.getElem?_append_right (by simp; omega)]
      have h2 := ih (i := i) (by simpa using h)
      rw [← h2]
      congr 1
      simp; omega
theorem own_insAt {w : World} {base n c : Nat} {A : Option Addr} {xs : List Ins} {e : TypeId} (h : w.ownsRow base e 15 (.slice A n c) n (rowsI xs)) (hn : n = xs.length) : InsAt w A xs := fun i x hx => by
  have hi := (List.getElem?_eq_some_iff.1 hx).1
  rcases h.2 with ⟨hv, h0⟩ | ⟨g, cap, cur, hv, hb, hh, hcap, _, hsz, htk⟩
  · omega
  · injection hv with h1 _ h3
    subst h1 h3
    refine ⟨g, 0, rfl, (Array.getElem?_eq_some_iff.1 hh).1, ?_⟩
    have key : ∀ r, r < 15 → w.cell? ⟨g, 0 + i * 15 + r, none⟩ = (#[Value.string ⟨List.toArray x.id⟩, Value.int .i64 x.kind, Value.string ⟨List.toArray x.cur⟩, Value.int .i64 x.places, Value.int .i64 x.issued, Value.int .i64 x.matures, Value.string ⟨List.toArray x.fn⟩, Value.string ⟨List.toArray x.fd⟩, Value.string ⟨List.toArray x.cn⟩, Value.string ⟨List.toArray x.cd⟩, Value.int .i64 x.months, Value.int .i64 x.count, Value.string ⟨List.toArray x.other⟩, Value.string ⟨List.toArray x.sn⟩, Value.string ⟨List.toArray x.sd⟩])[r]? := fun r hr => by
      rw [blk_cell hh, ← rowsI_at hx hr, ← htk, List.getElem?_take, if_pos (by omega), Array.getElem?_toList, Nat.zero_add]
    exact ⟨key 0 (by decide), key 1 (by decide), key 2 (by decide), key 3 (by decide), key 4 (by decide), key 5 (by decide), key 6 (by decide), key 7 (by decide), key 8 (by decide), key 9 (by decide), key 10 (by decide), key 11 (by decide), key 12 (by decide), key 13 (by decide), key 14 (by decide)⟩
theorem info_ins : (Tryz.prog.info? 34).map (fun i => (i.zero, i.size, i.bytes)) = some (some (.agg #[.string ⟨#[]⟩, .int .i64 0, .string ⟨#[]⟩, .int .i64 0, .int .i64 0, .int .i64 0, .string ⟨#[]⟩, .string ⟨#[]⟩, .string ⟨#[]⟩, .string ⟨#[]⟩, .int .i64 0, .int .i64 0, .string ⟨#[]⟩, .string ⟨#[]⟩, .string ⟨#[]⟩]), 15, 192) := by kernel_rfl
set_option maxRecDepth 100000 in
/-- slices.Clone at instruments -/
theorem cloneI (A : Option Addr) (xs : List Ins) (n c : Nat) (w : World) (hn : xs.length = n) (h0 : 0 < n) (hn2 : n ≤ 1000000) (h : InsAt w A xs) :
    Calls Tryz.prog 19 #[.slice A n c] w fun e w' => ∃ B cp, e = .returned (.slice B n cp) ∧ w'.ownsRow w.heap.size 34 15 (.slice B n cp) n (rowsI xs) ∧ Below w.heap.size w w' := by
  obtain ⟨x0, hx0⟩ : ∃ x, xs[0]? = some x := ⟨_, List.getElem?_eq_getElem (by omega)⟩
  obtain ⟨b, o, rfl, hbs, -⟩ := h 0 x0 hx0
  obtain ⟨i0, e0, e1, e2, e3⟩ := info_parts info_ins
  refine (AnyE.slices_Clone Tryz.cloneIns i0 _ 15 192 e0 e1 e2 e3 rfl (by decide) Tryz.sizeOf34 b o n c (rowsI xs) w (by rw [rowsI_len, hn]) (by unfold maxLen; omega) (by omega) (fun j u hu => ?_) (rowsI_one xs)).mono ?_
  · obtain ⟨x, h1, h2⟩ := rowsI_get hu
    obtain ⟨b', o', hA, -, hc⟩ := h (j / 15) x h1
    cases hA
    have h3 := hc.get h2
    have h4 : o + j = o + j / 15 * 15 + j % 15 := by omega
    rw [h4]
    exact h3
  · rintro e w' ⟨v, rfl, hown, -, hb⟩
    rcases hown.2 with ⟨-, hz⟩ | ⟨g, cap, cur, hv, _⟩
    · omega
    · subst hv; exact ⟨_, _, rfl, hown, hb⟩
end Go.Proofs.YtmjglcgdcclinaaGreatDoor
