/- tranchelaw10: the closures of InstrumentFields. -/
import Derived.Test.YtdbmjbcgcajojaaGreatDoorIj
import Derived.StillTactics
namespace Go.Proofs.YtdbmjbcgcajojaaGreatDoor
open Go.RowKit Num
def cellsI (x : Ins) : List Value := (#[Value.string ⟨List.toArray x.id⟩, Value.int .i64 x.kind, Value.string ⟨List.toArray x.cur⟩, Value.int .i64 x.places, Value.int .i64 x.issued, Value.int .i64 x.matures, Value.string ⟨List.toArray x.fn⟩, Value.string ⟨List.toArray x.fd⟩, Value.string ⟨List.toArray x.cn⟩, Value.string ⟨List.toArray x.cd⟩, Value.int .i64 x.months, Value.int .i64 x.count, Value.string ⟨List.toArray x.other⟩, Value.string ⟨List.toArray x.sn⟩, Value.string ⟨List.toArray x.sd⟩]).toList
/-- a block that holds an instrument, with its type -/
def IBlk (w : World) (b : Nat) (x : Ins) : Prop := w.heap[b]? = some (.cells #[Value.string ⟨List.toArray x.id⟩, Value.int .i64 x.kind, Value.string ⟨List.toArray x.cur⟩, Value.int .i64 x.places, Value.int .i64 x.issued, Value.int .i64 x.matures, Value.string ⟨List.toArray x.fn⟩, Value.string ⟨List.toArray x.fd⟩, Value.string ⟨List.toArray x.cn⟩, Value.string ⟨List.toArray x.cd⟩, Value.int .i64 x.months, Value.int .i64 x.count, Value.string ⟨List.toArray x.other⟩, Value.string ⟨List.toArray x.sn⟩, Value.string ⟨List.toArray x.sd⟩] 47 (0, 0))
theorem IBlk.box {w : World} {b : Nat} {x : Ins} (h : IBlk w b x) : IBox w b x := ⟨_, h⟩
theorem IBlk.f {w : World} {b : Nat} {x : Ins} (h : IBlk w b x) (i : Nat) : w.frozen? ⟨b, i, none⟩ = false := blk_frozen h i
theorem turned_cell {w : World} {b k : Nat} {cs : Array Value} {t : TypeId} (v : Value) (h : w.heap[b]? = some (.cells cs t (0, 0))) : Turned w (w.setCell ⟨b, k, none⟩ v) b (.cells (cs.setIfInBounds k v) t (0, 0)) := by
  refine ⟨rfl, rfl, rfl, by simp [World.setCell], by simp [World.setCell, Array.getElem?_modify, h], fun j hj => Below.heap_setCell _ _ _ _ hj⟩
theorem Turned.trans {w w' w'' : World} {b : Nat} {o o' : Obj} (h : Turned w w' b o) (k : Turned w' w'' b o') : Turned w w'' b o' :=
  ⟨k.os.trans h.os, k.tape.trans h.tape, k.output.trans h.output, k.size.trans h.size, k.new, fun j hj => (k.old j hj).trans (h.old j hj)⟩
def mod2 (x : Ins) : Ins := { x with fn := [49], fd := [] }
def mod3 (x : Ins) : Ins := { x with cn := [49], cd := [] }
def mod4 (x : Ins) : Ins := { x with months := 6 }
def mod5 (x : Ins) : Ins := { x with count := 1 }
def mod6 (x : Ins) : Ins := { x with sn := [49], sd := [] }
def mod7 (x : Ins) : Ins := { x with other := [69, 85, 82] }
def mod8 (x : Ins) : Ins := { x with matures := 0 }
def mod9 (x : Ins) : Ins := { x with kind := 6 }
def mod10 (x : Ins) : Ins := { x with places := -1 }
set_option maxRecDepth 100000 in
theorem chg2 (x : Ins) (w : World) (b b5 : Nat) (h : IBlk w b x) (h5 : FBox w b5 (.string ⟨#[49]⟩) (.string ⟨#[]⟩)) : Calls Tryz.prog 52 #[.pointer (some ⟨b, 0, none⟩), .pointer (some ⟨b5, 0, none⟩)] w fun e w' => e = .returned (.tuple #[]) ∧ Turned w w' b (.cells #[Value.string ⟨List.toArray (mod2 x).id⟩, Value.int .i64 (mod2 x).kind, Value.string ⟨List.toArray (mod2 x).cur⟩, Value.int .i64 (mod2 x).places, Value.int .i64 (mod2 x).issued, Value.int .i64 (mod2 x).matures, Value.string ⟨List.toArray (mod2 x).fn⟩, Value.string ⟨List.toArray (mod2 x).fd⟩, Value.string ⟨List.toArray (mod2 x).cn⟩, Value.string ⟨List.toArray (mod2 x).cd⟩, Value.int .i64 (mod2 x).months, Value.int .i64 (mod2 x).count, Value.string ⟨List.toArray (mod2 x).other⟩, Value.string ⟨List.toArray (mod2 x).sn⟩, Value.string ⟨List.toArray (mod2 x).sd⟩] 47 (0, 0)) := by
  have t0 := turned_cell (k := 6) (.string ⟨#[49]⟩) h
  have t0 := t0.trans (turned_cell (k := 7) (.string ⟨#[]⟩) t0.new)
  have HT := Lib.hid t0
  clear t0
  have p6 := h.box.c6
  have f6 := h.f 6
  have p7 := h.box.c7
  have f7 := h.f 7
  have q0 := h5.c0
  have q1 := h5.c1
  go_enter Tryz.func52, Tryz.ntmps52
  go_wp2
  go_end0
  exact ⟨rfl, HT.out⟩
set_option maxRecDepth 100000 in
theorem chg3 (x : Ins) (w : World) (b b5 : Nat) (h : IBlk w b x) (h5 : FBox w b5 (.string ⟨#[49]⟩) (.string ⟨#[]⟩)) : Calls Tryz.prog 53 #[.pointer (some ⟨b, 0, none⟩), .pointer (some ⟨b5, 0, none⟩)] w fun e w' => e = .returned (.tuple #[]) ∧ Turned w w' b (.cells #[Value.string ⟨List.toArray (mod3 x).id⟩, Value.int .i64 (mod3 x).kind, Value.string ⟨List.toArray (mod3 x).cur⟩, Value.int .i64 (mod3 x).places, Value.int .i64 (mod3 x).issued, Value.int .i64 (mod3 x).matures, Value.string ⟨List.toArray (mod3 x).fn⟩, Value.string ⟨List.toArray (mod3 x).fd⟩, Value.string ⟨List.toArray (mod3 x).cn⟩, Value.string ⟨List.toArray (mod3 x).cd⟩, Value.int .i64 (mod3 x).months, Value.int .i64 (mod3 x).count, Value.string ⟨List.toArray (mod3 x).other⟩, Value.string ⟨List.toArray (mod3 x).sn⟩, Value.string ⟨List.toArray (mod3 x).sd⟩] 47 (0, 0)) := by
  have t0 := turned_cell (k := 8) (.string ⟨#[49]⟩) h
  have t0 := t0.trans (turned_cell (k := 9) (.string ⟨#[]⟩) t0.new)
  have HT := Lib.hid t0
  clear t0
  have p8 := h.box.c8
  have f8 := h.f 8
  have p9 := h.box.c9
  have f9 := h.f 9
  have q0 := h5.c0
  have q1 := h5.c1
  go_enter Tryz.func53, Tryz.ntmps53
  go_wp2
  go_end0
  exact ⟨rfl, HT.out⟩
set_option maxRecDepth 100000 in
theorem chg4 (x : Ins) (w : World) (b : Nat) (h : IBlk w b x) : Calls Tryz.prog 54 #[.pointer (some ⟨b, 0, none⟩)] w fun e w' => e = .returned (.tuple #[]) ∧ Turned w w' b (.cells #[Value.string ⟨List.toArray (mod4 x).id⟩, Value.int .i64 (mod4 x).kind, Value.string ⟨List.toArray (mod4 x).cur⟩, Value.int .i64 (mod4 x).places, Value.int .i64 (mod4 x).issued, Value.int .i64 (mod4 x).matures, Value.string ⟨List.toArray (mod4 x).fn⟩, Value.string ⟨List.toArray (mod4 x).fd⟩, Value.string ⟨List.toArray (mod4 x).cn⟩, Value.string ⟨List.toArray (mod4 x).cd⟩, Value.int .i64 (mod4 x).months, Value.int .i64 (mod4 x).count, Value.string ⟨List.toArray (mod4 x).other⟩, Value.string ⟨List.toArray (mod4 x).sn⟩, Value.string ⟨List.toArray (mod4 x).sd⟩] 47 (0, 0)) := by
  have t0 := turned_cell (k := 10) (.int .i64 6) h
  have HT := Lib.hid t0
  clear t0
  have p10 := h.box.c10
  have f10 := h.f 10
  go_enter Tryz.func54, Tryz.ntmps54
  go_wp2
  go_end0
  exact ⟨rfl, HT.out⟩
set_option maxRecDepth 100000 in
theorem chg5 (x : Ins) (w : World) (b : Nat) (h : IBlk w b x) : Calls Tryz.prog 55 #[.pointer (some ⟨b, 0, none⟩)] w fun e w' => e = .returned (.tuple #[]) ∧ Turned w w' b (.cells #[Value.string ⟨List.toArray (mod5 x).id⟩, Value.int .i64 (mod5 x).kind, Value.string ⟨List.toArray (mod5 x).cur⟩, Value.int .i64 (mod5 x).places, Value.int .i64 (mod5 x).issued, Value.int .i64 (mod5 x).matures, Value.string ⟨List.toArray (mod5 x).fn⟩, Value.string ⟨List.toArray (mod5 x).fd⟩, Value.string ⟨List.toArray (mod5 x).cn⟩, Value.string ⟨List.toArray (mod5 x).cd⟩, Value.int .i64 (mod5 x).months, Value.int .i64 (mod5 x).count, Value.string ⟨List.toArray (mod5 x).other⟩, Value.string ⟨List.toArray (mod5 x).sn⟩, Value.string ⟨List.toArray (mod5 x).sd⟩] 47 (0, 0)) := by
  have t0 := turned_cell (k := 11) (.int .i64 1) h
  have HT := Lib.hid t0
  clear t0
  have p11 := h.box.c11
  have f11 := h.f 11
  go_enter Tryz.func55, Tryz.ntmps55
  go_wp2
  go_end0
  exact ⟨rfl, HT.out⟩
set_option maxRecDepth 100000 in
theorem chg6 (x : Ins) (w : World) (b b5 : Nat) (h : IBlk w b x) (h5 : FBox w b5 (.string ⟨#[49]⟩) (.string ⟨#[]⟩)) : Calls Tryz.prog 56 #[.pointer (some ⟨b, 0, none⟩), .pointer (some ⟨b5, 0, none⟩)] w fun e w' => e = .returned (.tuple #[]) ∧ Turned w w' b (.cells #[Value.string ⟨List.toArray (mod6 x).id⟩, Value.int .i64 (mod6 x).kind, Value.string ⟨List.toArray (mod6 x).cur⟩, Value.int .i64 (mod6 x).places, Value.int .i64 (mod6 x).issued, Value.int .i64 (mod6 x).matures, Value.string ⟨List.toArray (mod6 x).fn⟩, Value.string ⟨List.toArray (mod6 x).fd⟩, Value.string ⟨List.toArray (mod6 x).cn⟩, Value.string ⟨List.toArray (mod6 x).cd⟩, Value.int .i64 (mod6 x).months, Value.int .i64 (mod6 x).count, Value.string ⟨List.toArray (mod6 x).other⟩, Value.string ⟨List.toArray (mod6 x).sn⟩, Value.string ⟨List.toArray (mod6 x).sd⟩] 47 (0, 0)) := by
  have t0 := turned_cell (k := 13) (.string ⟨#[49]⟩) h
  have t0 := t0.trans (turned_cell (k := 14) (.string ⟨#[]⟩) t0.new)
  have HT := Lib.hid t0
  clear t0
  have p13 := h.box.c13
  have f13 := h.f 13
  have p14 := h.box.c14
  have f14 := h.f 14
  have q0 := h5.c0
  have q1 := h5.c1
  go_enter Tryz.func56, Tryz.ntmps56
  go_wp2
  go_end0
  exact ⟨rfl, HT.out⟩
set_option maxRecDepth 100000 in
theorem chg7 (x : Ins) (w : World) (b : Nat) (h : IBlk w b x) : Calls Tryz.prog 57 #[.pointer (some ⟨b, 0, none⟩)] w fun e w' => e = .returned (.tuple #[]) ∧ Turned w w' b (.cells #[Value.string ⟨List.toArray (mod7 x).id⟩, Value.int .i64 (mod7 x).kind, Value.string ⟨List.toArray (mod7 x).cur⟩, Value.int .i64 (mod7 x).places, Value.int .i64 (mod7 x).issued, Value.int .i64 (mod7 x).matures, Value.string ⟨List.toArray (mod7 x).fn⟩, Value.string ⟨List.toArray (mod7 x).fd⟩, Value.string ⟨List.toArray (mod7 x).cn⟩, Value.string ⟨List.toArray (mod7 x).cd⟩, Value.int .i64 (mod7 x).months, Value.int .i64 (mod7 x).count, Value.string ⟨List.toArray (mod7 x).other⟩, Value.string ⟨List.toArray (mod7 x).sn⟩, Value.string ⟨List.toArray (mod7 x).sd⟩] 47 (0, 0)) := by
  have t0 := turned_cell (k := 12) (.string ⟨#[69, 85, 82]⟩) h
  have HT := Lib.hid t0
  clear t0
  have p12 := h.box.c12
  have f12 := h.f 12
  go_enter Tryz.func57, Tryz.ntmps57
  go_wp2
  go_end0
  exact ⟨rfl, HT.out⟩
set_option maxRecDepth 100000 in
theorem chg8 (x : Ins) (w : World) (b : Nat) (h : IBlk w b x) : Calls Tryz.prog 58 #[.pointer (some ⟨b, 0, none⟩)] w fun e w' => e = .returned (.tuple #[]) ∧ Turned w w' b (.cells #[Value.string ⟨List.toArray (mod8 x).id⟩, Value.int .i64 (mod8 x).kind, Value.string ⟨List.toArray (mod8 x).cur⟩, Value.int .i64 (mod8 x).places, Value.int .i64 (mod8 x).issued, Value.int .i64 (mod8 x).matures, Value.string ⟨List.toArray (mod8 x).fn⟩, Value.string ⟨List.toArray (mod8 x).fd⟩, Value.string ⟨List.toArray (mod8 x).cn⟩, Value.string ⟨List.toArray (mod8 x).cd⟩, Value.int .i64 (mod8 x).months, Value.int .i64 (mod8 x).count, Value.string ⟨List.toArray (mod8 x).other⟩, Value.string ⟨List.toArray (mod8 x).sn⟩, Value.string ⟨List.toArray (mod8 x).sd⟩] 47 (0, 0)) := by
  have t0 := turned_cell (k := 5) (.int .i64 0) h
  have HT := Lib.hid t0
  clear t0
  have p5 := h.box.c5
  have f5 := h.f 5
  go_enter Tryz.func58, Tryz.ntmps58
  go_wp2
  go_end0
  exact ⟨rfl, HT.out⟩
set_option maxRecDepth 100000 in
theorem chg9 (x : Ins) (w : World) (b : Nat) (h : IBlk w b x) : Calls Tryz.prog 59 #[.pointer (some ⟨b, 0, none⟩)] w fun e w' => e = .returned (.tuple #[]) ∧ Turned w w' b (.cells #[Value.string ⟨List.toArray (mod9 x).id⟩, Value.int .i64 (mod9 x).kind, Value.string ⟨List.toArray (mod9 x).cur⟩, Value.int .i64 (mod9 x).places, Value.int .i64 (mod9 x).issued, Value.int .i64 (mod9 x).matures, Value.string ⟨List.toArray (mod9 x).fn⟩, Value.string ⟨List.toArray (mod9 x).fd⟩, Value.string ⟨List.toArray (mod9 x).cn⟩, Value.string ⟨List.toArray (mod9 x).cd⟩, Value.int .i64 (mod9 x).months, Value.int .i64 (mod9 x).count, Value.string ⟨List.toArray (mod9 x).other⟩, Value.string ⟨List.toArray (mod9 x).sn⟩, Value.string ⟨List.toArray (mod9 x).sd⟩] 47 (0, 0)) := by
  have t0 := turned_cell (k := 1) (.int .i64 6) h
  have HT := Lib.hid t0
  clear t0
  have p1 := h.box.c1
  have f1 := h.f 1
  go_enter Tryz.func59, Tryz.ntmps59
  go_wp2
  go_end0
  exact ⟨rfl, HT.out⟩
set_option maxRecDepth 100000 in
theorem chg10 (x : Ins) (w : World) (b : Nat) (h : IBlk w b x) : Calls Tryz.prog 60 #[.pointer (some ⟨b, 0, none⟩)] w fun e w' => e = .returned (.tuple #[]) ∧ Turned w w' b (.cells #[Value.string ⟨List.toArray (mod10 x).id⟩, Value.int .i64 (mod10 x).kind, Value.string ⟨List.toArray (mod10 x).cur⟩, Value.int .i64 (mod10 x).places, Value.int .i64 (mod10 x).issued, Value.int .i64 (mod10 x).matures, Value.string ⟨List.toArray (mod10 x).fn⟩, Value.string ⟨List.toArray (mod10 x).fd⟩, Value.string ⟨List.toArray (mod10 x).cn⟩, Value.string ⟨List.toArray (mod10 x).cd⟩, Value.int .i64 (mod10 x).months, Value.int .i64 (mod10 x).count, Value.string ⟨List.toArray (mod10 x).other⟩, Value.string ⟨List.toArray (mod10 x).sn⟩, Value.string ⟨List.toArray (mod10 x).sd⟩] 47 (0, 0)) := by
  have t0 := turned_cell (k := 3) (.int .i64 (-1)) h
  have HT := Lib.hid t0
  clear t0
  have p3 := h.box.c3
  have f3 := h.f 3
  go_enter Tryz.func60, Tryz.ntmps60
  go_wp2
  go_end0
  exact ⟨rfl, HT.out⟩
end Go.Proofs.YtdbmjbcgcajojaaGreatDoor
