/- tranchelaw10: the closure that collects, of InstrumentFields. -/
import Derived.Test.YtdbmjbcgcajojaaGreatDoorIk
namespace Go.Proofs.YtdbmjbcgcajojaaGreatDoor
open Go.RowKit Num
theorem info_ins : (Tryz.prog.info? 47).map (fun i => (i.zero, i.size, i.bytes)) = some (some (.agg #[.string ⟨#[]⟩, .int .i64 0, .string ⟨#[]⟩, .int .i64 0, .int .i64 0, .int .i64 0, .string ⟨#[]⟩, .string ⟨#[]⟩, .string ⟨#[]⟩, .string ⟨#[]⟩, .int .i64 0, .int .i64 0, .string ⟨#[]⟩, .string ⟨#[]⟩, .string ⟨#[]⟩]), 15, 192) := by kernel_rfl
/-- a variable that holds the collected instruments -/
def Coll (w : World) (base b6 : Nat) (ys : List Ins) : Prop := ∃ v, w.heap[b6]? = some (.cells #[v] 49 (0, 0)) ∧ w.ownsRow base 47 15 v ys.length (ys.flatMap cellsI)
theorem cellsI_len (x : Ins) : (cellsI x).length = 15 := rfl
theorem cellsI_one (x : Ins) : ∀ u ∈ cellsI x, u.oneCell' = true := by
  intro u hu
  simp only [cellsI, List.mem_cons, List.not_mem_nil, or_false] at hu
  rcases hu with rfl | rfl | rfl | rfl | rfl | rfl | rfl | rfl | rfl | rfl | rfl | rfl | rfl | rfl | rfl <;> rfl
theorem own_keep {w w' : World} {base n : Nat} {e : TypeId} {size : Nat} {v : Value} {xs : List Value} (h : w.ownsRow base e size v n xs) (hk : ∀ g, base ≤ g → g < w.heap.size → w'.heap[g]? = w.heap[g]?) : w'.ownsRow base e size v n xs := by
  refine ⟨h.1, ?_⟩
  rcases h.2 with h0 | ⟨g, cap, cur, hv, hb1, hh, hr⟩
  · exact .inl h0
  · exact .inr ⟨g, cap, cur, hv, hb1, (hk g hb1 (Array.getElem?_eq_some_iff.1 hh).1).trans hh, hr⟩
theorem own_form' {w : World} {base n : Nat} {e : TypeId} {size : Nat} {v : Value} {xs : List Value} (h : w.ownsRow base e size v n xs) : ∃ A c, v = .slice A n c := by
  rcases h.2 with ⟨rfl, h0⟩ | ⟨g, cap, cur, rfl, _⟩
  · exact ⟨none, 0, by rw [h0]⟩
  · exact ⟨_, _, rfl⟩
theorem own_block_ge' {w : World} {base n : Nat} {e : TypeId} {size : Nat} {v : Value} {xs : List Value} (h : w.ownsRow base e size v n xs) (g : Nat) (hg : v.ownBlock = some g) : base ≤ g := by
  rcases h.2 with ⟨rfl, _⟩ | ⟨g', cap, cur, rfl, hb, _⟩
  · simp [Value.ownBlock] at hg
  · simp only [Value.ownBlock, Option.some.injEq] at hg; omega
set_option maxHeartbeats 2000000 in
set_option maxRecDepth 100000 in
theorem addN (f : Nat) (hcall : ∀ (args : Array Value) w, (callFunc f args).run Tryz.prog w = .ok (.enter f args) w) (x y : Ins) (b2 b5 b6 : Nat) (_h25 : b2 < b6) (_h56 : b5 < b6)
    (hf : ∀ (w : World) (b : Nat), IBlk w b x → FBox w b5 (.string ⟨#[49]⟩) (.string ⟨#[]⟩) → Calls Tryz.prog f #[.pointer (some ⟨b, 0, none⟩)] w fun e w' => e = .returned (.tuple #[]) ∧ Turned w w' b (.cells #[Value.string ⟨List.toArray y.id⟩, Value.int .i64 y.kind, Value.string ⟨List.toArray y.cur⟩, Value.int .i64 y.places, Value.int .i64 y.issued, Value.int .i64 y.matures, Value.string ⟨List.toArray y.fn⟩, Value.string ⟨List.toArray y.fd⟩, Value.string ⟨List.toArray y.cn⟩, Value.string ⟨List.toArray y.cd⟩, Value.int .i64 y.months, Value.int .i64 y.count, Value.string ⟨List.toArray y.other⟩, Value.string ⟨List.toArray y.sn⟩, Value.string ⟨List.toArray y.sd⟩] 47 (0, 0)))
    (ys : List Ins) (hn : ys.length ≤ 100) (w : World) (x2 : IBox w b2 x) (x5 : FBox w b5 (.string ⟨#[49]⟩) (.string ⟨#[]⟩)) (x6 : Coll w (b6 + 1) b6 ys) :
    Calls Tryz.prog 51 #[.func (Fn.func f) #[] #[], .pointer (some ⟨b2, 0, none⟩), .pointer (some ⟨b6, 0, none⟩)] w fun e w' => e = .returned (.tuple #[]) ∧ Below b6 w w' ∧ Coll w' (b6 + 1) b6 (ys ++ [y]) := by
  obtain ⟨i0, hi, hz0, hz1, hz2⟩ := info_parts info_ins
  obtain ⟨v, h6, hown⟩ := x6
  have hs6 : b6 < w.heap.size := (Array.getElem?_eq_some_iff.1 h6).1
  have hbA := below_alloc w (.cells #[Value.string ⟨List.toArray x.id⟩, Value.int .i64 x.kind, Value.string ⟨List.toArray x.cur⟩, Value.int .i64 x.places, Value.int .i64 x.issued, Value.int .i64 x.matures, Value.string ⟨List.toArray x.fn⟩, Value.string ⟨List.toArray x.fd⟩, Value.string ⟨List.toArray x.cn⟩, Value.string ⟨List.toArray x.cd⟩, Value.int .i64 x.months, Value.int .i64 x.count, Value.string ⟨List.toArray x.other⟩, Value.string ⟨List.toArray x.sn⟩, Value.string ⟨List.toArray x.sd⟩] 47)
  have y4 : IBlk (w.alloc (.cells #[Value.string ⟨List.toArray x.id⟩, Value.int .i64 x.kind, Value.string ⟨List.toArray x.cur⟩, Value.int .i64 x.places, Value.int .i64 x.issued, Value.int .i64 x.matures, Value.string ⟨List.toArray x.fn⟩, Value.string ⟨List.toArray x.fd⟩, Value.string ⟨List.toArray x.cn⟩, Value.string ⟨List.toArray x.cd⟩, Value.int .i64 x.months, Value.int .i64 x.count, Value.string ⟨List.toArray x.other⟩, Value.string ⟨List.toArray x.sn⟩, Value.string ⟨List.toArray x.sd⟩] 47)) w.heap.size x := heap_alloc_new w _
  have hf4 := hf _ _ y4 (x5.below hbA)
  have HF := Lib.hid hf4
  have HO := Lib.hid hown
  have H6 := Lib.hid h6
  have p0 := x2.c0
  have p1 := x2.c1
  have p2 := x2.c2
  have p3 := x2.c3
  have p4 := x2.c4
  have p5 := x2.c5
  have p6 := x2.c6
  have p7 := x2.c7
  have p8 := x2.c8
  have p9 := x2.c9
  have p10 := x2.c10
  have p11 := x2.c11
  have p12 := x2.c12
  have p13 := x2.c13
  have p14 := x2.c14
  clear hf hf4 hown h6 y4
  go_enter Tryz.func51, Tryz.ntmps51
  go_wp2_with fail
  ((with_reducible refine HF.out.mono ?_); rintro e w1 ⟨rfl, ht⟩)
  have hsz : w1.heap.size = w.heap.size + 1 := by rw [ht.size]; simp
  have y4 : IBlk w1 w.heap.size y := ht.new
  have hk : ∀ g, g < w.heap.size → w1.heap[g]? = w.heap[g]? := fun g hg => (ht.old g (by omega)).trans (Below.heap_alloc w _ g hg)
  have own1 := own_keep HO.out (w' := w1) (fun g _ hg => hk g hg)
  have h61 := (hk b6 hs6).trans H6.out
  have hb1 : Below b6 w w1 := ⟨ht.os, ht.tape, ht.output, by omega, fun g hg => hk g (by omega)⟩
  have own2 : (w1.alloc (.cells #[Value.string ⟨List.toArray y.id⟩, Value.int .i64 y.kind, Value.string ⟨List.toArray y.cur⟩, Value.int .i64 y.places, Value.int .i64 y.issued, Value.int .i64 y.matures, Value.string ⟨List.toArray y.fn⟩, Value.string ⟨List.toArray y.fd⟩, Value.string ⟨List.toArray y.cn⟩, Value.string ⟨List.toArray y.cd⟩, Value.int .i64 y.months, Value.int .i64 y.count, Value.string ⟨List.toArray y.other⟩, Value.string ⟨List.toArray y.sn⟩, Value.string ⟨List.toArray y.sd⟩] 47)).ownsRow (b6 + 1) 47 15 v ys.length (ys.flatMap cellsI) := own_keep own1 (fun g _ hg => Below.heap_alloc w1 _ g hg)
  have HK := Lib.hid hk
  have hs1 : w.heap.size + 1 ≤ w1.heap.size := by omega
  have hs2 : w1.heap.size ≤ w.heap.size + 1 := by omega
  clear hsz
  have HB := Lib.hid hb1
  have HT := Lib.hid ht
  have q6 : w1.cell? ⟨b6, 0, none⟩ = some v := blk_cell h61 0
  have q7 : w1.frozen? ⟨b6, 0, none⟩ = false := blk_frozen h61 0
  clear p0 p1 p2 p3 p4 p5 p6 p7 p8 p9 p10 p11 p12 p13 p14 hk hb1 ht
  have p0 := y4.box.c0
  have p1 := y4.box.c1
  have p2 := y4.box.c2
  have p3 := y4.box.c3
  have p4 := y4.box.c4
  have p5 := y4.box.c5
  have p6 := y4.box.c6
  have p7 := y4.box.c7
  have p8 := y4.box.c8
  have p9 := y4.box.c9
  have p10 := y4.box.c10
  have p11 := y4.box.c11
  have p12 := y4.box.c12
  have p13 := y4.box.c13
  have p14 := y4.box.c14
  go_wp2_with (at_builtin; refine wpList_append_own _ rfl _ _ 49 rfl (b6 + 1) 47 i0 (.agg #[.string ⟨#[]⟩, .int .i64 0, .string ⟨#[]⟩, .int .i64 0, .int .i64 0, .int .i64 0, .string ⟨#[]⟩, .string ⟨#[]⟩, .string ⟨#[]⟩, .string ⟨#[]⟩, .int .i64 0, .int .i64 0, .string ⟨#[]⟩, .string ⟨#[]⟩, .string ⟨#[]⟩]) 15 192 Tryz.underlying49 hi hz0 hz1 hz2 rfl (by decide) _ _ _ rfl own2 ⟨w1.heap.size, 0, none⟩ 1 1 (cellsI y) rfl rfl ?c1 ?c2 ?c3 ?c4 ?c5 ?_)
  case c1 =>
    intro j u hu
    rw [Lib.add_plain, Nat.zero_add, (Blk.new w1 #[Value.string ⟨List.toArray y.id⟩, Value.int .i64 y.kind, Value.string ⟨List.toArray y.cur⟩, Value.int .i64 y.places, Value.int .i64 y.issued, Value.int .i64 y.matures, Value.string ⟨List.toArray y.fn⟩, Value.string ⟨List.toArray y.fd⟩, Value.string ⟨List.toArray y.cn⟩, Value.string ⟨List.toArray y.cd⟩, Value.int .i64 y.months, Value.int .i64 y.count, Value.string ⟨List.toArray y.other⟩, Value.string ⟨List.toArray y.sn⟩, Value.string ⟨List.toArray y.sd⟩] 47).c j]
    rw [← Array.getElem?_toList]
    exact hu
  case c2 => exact cellsI_one y
  case c3 => unfold maxLen; omega
  case c4 => omega
  case c5 => simp; omega
  intro v' w3 hown' hgrow _
  have hb3 : Below (b6 + 1) w1 w3 := ((Below.refl _ w1).alloc (by omega) _).grown hgrow (by simp; omega) (own_block_ge' own2)
  have h63 : w3.heap[b6]? = some (.cells #[v] 49 (0, 0)) := (hb3.block b6 (by omega)).trans h61
  have q8 : w3.cell? ⟨b6, 0, none⟩ = some v := blk_cell h63 0
  have q9 : w3.frozen? ⟨b6, 0, none⟩ = false := blk_frozen h63 0
  obtain ⟨A', c', rfl⟩ := own_form' hown'
  have hown3 := ownsRow_setCell_below (a := ⟨b6, 0, none⟩) hown' (by show b6 < b6 + 1; omega) (.slice A' (ys.length + 1) c')
  have HO3 := Lib.hid hown3
  have HB3 := Lib.hid hb3
  have H63 := Lib.hid h63
  clear hown3 hb3 h63 hown' hgrow
  go_wp2
  go_end0
  refine ⟨rfl, below_set1 (HB.out.trans (HB3.out.mono (by omega))) (Nat.le_refl _) _ _, .slice A' (ys.length + 1) c', ?_, ?_⟩
  · simp [World.setCell, Array.getElem?_modify, H63.out]
  · have := HO3.out
    rw [List.length_append, List.flatMap_append]
    simpa using this
set_option maxHeartbeats 2000000 in
set_option maxRecDepth 100000 in
theorem addC (f : Nat) (hcall : ∀ (args : Array Value) w, (callFunc f args).run Tryz.prog w = .ok (.enter f args) w) (x y : Ins) (b2 b5 b6 : Nat) (_h25 : b2 < b6) (_h56 : b5 < b6)
    (hf : ∀ (w : World) (b : Nat), IBlk w b x → FBox w b5 (.string ⟨#[49]⟩) (.string ⟨#[]⟩) → Calls Tryz.prog f #[.pointer (some ⟨b, 0, none⟩), .pointer (some ⟨b5, 0, none⟩)] w fun e w' => e = .returned (.tuple #[]) ∧ Turned w w' b (.cells #[Value.string ⟨List.toArray y.id⟩, Value.int .i64 y.kind, Value.string ⟨List.toArray y.cur⟩, Value.int .i64 y.places, Value.int .i64 y.issued, Value.int .i64 y.matures, Value.string ⟨List.toArray y.fn⟩, Value.string ⟨List.toArray y.fd⟩, Value.string ⟨List.toArray y.cn⟩, Value.string ⟨List.toArray y.cd⟩, Value.int .i64 y.months, Value.int .i64 y.count, Value.string ⟨List.toArray y.other⟩, Value.string ⟨List.toArray y.sn⟩, Value.string ⟨List.toArray y.sd⟩] 47 (0, 0)))
    (ys : List Ins) (hn : ys.length ≤ 100) (w : World) (x2 : IBox w b2 x) (x5 : FBox w b5 (.string ⟨#[49]⟩) (.string ⟨#[]⟩)) (x6 : Coll w (b6 + 1) b6 ys) :
    Calls Tryz.prog 51 #[.func (Fn.func f) #[] #[.pointer (some ⟨b5, 0, none⟩)], .pointer (some ⟨b2, 0, none⟩), .pointer (some ⟨b6, 0, none⟩)] w fun e w' => e = .returned (.tuple #[]) ∧ Below b6 w w' ∧ Coll w' (b6 + 1) b6 (ys ++ [y]) := by
  obtain ⟨i0, hi, hz0, hz1, hz2⟩ := info_parts info_ins
  obtain ⟨v, h6, hown⟩ := x6
  have hs6 : b6 < w.heap.size := (Array.getElem?_eq_some_iff.1 h6).1
  have hbA := below_alloc w (.cells #[Value.string ⟨List.toArray x.id⟩, Value.int .i64 x.kind, Value.string ⟨List.toArray x.cur⟩, Value.int .i64 x.places, Value.int .i64 x.issued, Value.int .i64 x.matures, Value.string ⟨List.toArray x.fn⟩, Value.string ⟨List.toArray x.fd⟩, Value.string ⟨List.toArray x.cn⟩, Value.string ⟨List.toArray x.cd⟩, Value.int .i64 x.months, Value.int .i64 x.count, Value.string ⟨List.toArray x.other⟩, Value.string ⟨List.toArray x.sn⟩, Value.string ⟨List.toArray x.sd⟩] 47)
  have y4 : IBlk (w.alloc (.cells #[Value.string ⟨List.toArray x.id⟩, Value.int .i64 x.kind, Value.string ⟨List.toArray x.cur⟩, Value.int .i64 x.places, Value.int .i64 x.issued, Value.int .i64 x.matures, Value.string ⟨List.toArray x.fn⟩, Value.string ⟨List.toArray x.fd⟩, Value.string ⟨List.toArray x.cn⟩, Value.string ⟨List.toArray x.cd⟩, Value.int .i64 x.months, Value.int .i64 x.count, Value.string ⟨List.toArray x.other⟩, Value.string ⟨List.toArray x.sn⟩, Value.string ⟨List.toArray x.sd⟩] 47)) w.heap.size x := heap_alloc_new w _
  have hf4 := hf _ _ y4 (x5.below hbA)
  have HF := Lib.hid hf4
  have HO := Lib.hid hown
  have H6 := Lib.hid h6
  have p0 := x2.c0
  have p1 := x2.c1
  have p2 := x2.c2
  have p3 := x2.c3
  have p4 := x2.c4
  have p5 := x2.c5
  have p6 := x2.c6
  have p7 := x2.c7
  have p8 := x2.c8
  have p9 := x2.c9
  have p10 := x2.c10
  have p11 := x2.c11
  have p12 := x2.c12
  have p13 := x2.c13
  have p14 := x2.c14
  clear hf hf4 hown h6 y4
  go_enter Tryz.func51, Tryz.ntmps51
  go_wp2_with fail
  ((with_reducible refine HF.out.mono ?_); rintro e w1 ⟨rfl, ht⟩)
  have hsz : w1.heap.size = w.heap.size + 1 := by rw [ht.size]; simp
  have y4 : IBlk w1 w.heap.size y := ht.new
  have hk : ∀ g, g < w.heap.size → w1.heap[g]? = w.heap[g]? := fun g hg => (ht.old g (by omega)).trans (Below.heap_alloc w _ g hg)
  have own1 := own_keep HO.out (w' := w1) (fun g _ hg => hk g hg)
  have h61 := (hk b6 hs6).trans H6.out
  have hb1 : Below b6 w w1 := ⟨ht.os, ht.tape, ht.output, by omega, fun g hg => hk g (by omega)⟩
  have own2 : (w1.alloc (.cells #[Value.string ⟨List.toArray y.id⟩, Value.int .i64 y.kind, Value.string ⟨List.toArray y.cur⟩, Value.int .i64 y.places, Value.int .i64 y.issued, Value.int .i64 y.matures, Value.string ⟨List.toArray y.fn⟩, Value.string ⟨List.toArray y.fd⟩, Value.string ⟨List.toArray y.cn⟩, Value.string ⟨List.toArray y.cd⟩, Value.int .i64 y.months, Value.int .i64 y.count, Value.string ⟨List.toArray y.other⟩, Value.string ⟨List.toArray y.sn⟩, Value.string ⟨List.toArray y.sd⟩] 47)).ownsRow (b6 + 1) 47 15 v ys.length (ys.flatMap cellsI) := own_keep own1 (fun g _ hg => Below.heap_alloc w1 _ g hg)
  have HK := Lib.hid hk
  have hs1 : w.heap.size + 1 ≤ w1.heap.size := by omega
  have hs2 : w1.heap.size ≤ w.heap.size + 1 := by omega
  clear hsz
  have HB := Lib.hid hb1
  have HT := Lib.hid ht
  have q6 : w1.cell? ⟨b6, 0, none⟩ = some v := blk_cell h61 0
  have q7 : w1.frozen? ⟨b6, 0, none⟩ = false := blk_frozen h61 0
  clear p0 p1 p2 p3 p4 p5 p6 p7 p8 p9 p10 p11 p12 p13 p14 hk hb1 ht
  have p0 := y4.box.c0
  have p1 := y4.box.c1
  have p2 := y4.box.c2
  have p3 := y4.box.c3
  have p4 := y4.box.c4
  have p5 := y4.box.c5
  have p6 := y4.box.c6
  have p7 := y4.box.c7
  have p8 := y4.box.c8
  have p9 := y4.box.c9
  have p10 := y4.box.c10
  have p11 := y4.box.c11
  have p12 := y4.box.c12
  have p13 := y4.box.c13
  have p14 := y4.box.c14
  go_wp2_with (at_builtin; refine wpList_append_own _ rfl _ _ 49 rfl (b6 + 1) 47 i0 (.agg #[.string ⟨#[]⟩, .int .i64 0, .string ⟨#[]⟩, .int .i64 0, .int .i64 0, .int .i64 0, .string ⟨#[]⟩, .string ⟨#[]⟩, .string ⟨#[]⟩, .string ⟨#[]⟩, .int .i64 0, .int .i64 0, .string ⟨#[]⟩, .string ⟨#[]⟩, .string ⟨#[]⟩]) 15 192 Tryz.underlying49 hi hz0 hz1 hz2 rfl (by decide) _ _ _ rfl own2 ⟨w1.heap.size, 0, none⟩ 1 1 (cellsI y) rfl rfl ?c1 ?c2 ?c3 ?c4 ?c5 ?_)
  case c1 =>
    intro j u hu
    rw [Lib.add_plain, Nat.zero_add, (Blk.new w1 #[Value.string ⟨List.toArray y.id⟩, Value.int .i64 y.kind, Value.string ⟨List.toArray y.cur⟩, Value.int .i64 y.places, Value.int .i64 y.issued, Value.int .i64 y.matures, Value.string ⟨List.toArray y.fn⟩, Value.string ⟨List.toArray y.fd⟩, Value.string ⟨List.toArray y.cn⟩, Value.string ⟨List.toArray y.cd⟩, Value.int .i64 y.months, Value.int .i64 y.count, Value.string ⟨List.toArray y.other⟩, Value.string ⟨List.toArray y.sn⟩, Value.string ⟨List.toArray y.sd⟩] 47).c j]
    rw [← Array.getElem?_toList]
    exact hu
  case c2 => exact cellsI_one y
  case c3 => unfold maxLen; omega
  case c4 => omega
  case c5 => simp; omega
  intro v' w3 hown' hgrow _
  have hb3 : Below (b6 + 1) w1 w3 := ((Below.refl _ w1).alloc (by omega) _).grown hgrow (by simp; omega) (own_block_ge' own2)
  have h63 : w3.heap[b6]? = some (.cells #[v] 49 (0, 0)) := (hb3.block b6 (by omega)).trans h61
  have q8 : w3.cell? ⟨b6, 0, none⟩ = some v := blk_cell h63 0
  have q9 : w3.frozen? ⟨b6, 0, none⟩ = false := blk_frozen h63 0
  obtain ⟨A', c', rfl⟩ := own_form' hown'
  have hown3 := ownsRow_setCell_below (a := ⟨b6, 0, none⟩) hown' (by show b6 < b6 + 1; omega) (.slice A' (ys.length + 1) c')
  have HO3 := Lib.hid hown3
  have HB3 := Lib.hid hb3
  have H63 := Lib.hid h63
  clear hown3 hb3 h63 hown' hgrow
  go_wp2
  go_end0
  refine ⟨rfl, below_set1 (HB.out.trans (HB3.out.mono (by omega))) (Nat.le_refl _) _ _, .slice A' (ys.length + 1) c', ?_, ?_⟩
  · simp [World.setCell, Array.getElem?_modify, H63.out]
  · have := HO3.out
    rw [List.length_append, List.flatMap_append]
    simpa using this
end Go.Proofs.YtdbmjbcgcajojaaGreatDoor
