/- Texts put together: Ie If Ma Mb Mc. -/
import Derived.Test.YtgnppdkeiihlfaaGreatDoorG1
import Derived.Laws.EntriesVeiled
import Derived.Deep.DeepCutAuto
namespace Go.Proofs.YtgnppdkeiihlfaaGreatDoor
open Go.RowKit Num
def IBox (w : World) (b : Nat) (x : Ins) : Prop := Blk w b #[Value.string ⟨List.toArray x.id⟩, Value.int .i64 x.kind, Value.string ⟨List.toArray x.cur⟩, Value.int .i64 x.places, Value.int .i64 x.issued, Value.int .i64 x.matures, Value.string ⟨List.toArray x.fn⟩, Value.string ⟨List.toArray x.fd⟩, Value.string ⟨List.toArray x.cn⟩, Value.string ⟨List.toArray x.cd⟩, Value.int .i64 x.months, Value.int .i64 x.count, Value.string ⟨List.toArray x.other⟩, Value.string ⟨List.toArray x.sn⟩, Value.string ⟨List.toArray x.sd⟩]
section
variable {w w' : World} {b : Nat} {x : Ins}
theorem IBox.new (w : World) (x : Ins) (t : TypeId) : IBox (w.alloc (.cells #[Value.string ⟨List.toArray x.id⟩, Value.int .i64 x.kind, Value.string ⟨List.toArray x.cur⟩, Value.int .i64 x.places, Value.int .i64 x.issued, Value.int .i64 x.matures, Value.string ⟨List.toArray x.fn⟩, Value.string ⟨List.toArray x.fd⟩, Value.string ⟨List.toArray x.cn⟩, Value.string ⟨List.toArray x.cd⟩, Value.int .i64 x.months, Value.int .i64 x.count, Value.string ⟨List.toArray x.other⟩, Value.string ⟨List.toArray x.sn⟩, Value.string ⟨List.toArray x.sd⟩] t)) w.heap.size x := Blk.new w _ t
theorem IBox.below (h : IBox w b x) (hb : Below w.heap.size w w') : IBox w' b x := Blk.below h hb
theorem IBox.c0 (h : IBox w b x) : w.cell? ⟨b, 0, none⟩ = some (Value.string ⟨List.toArray x.id⟩) := Blk.c h 0
theorem IBox.c1 (h : IBox w b x) : w.cell? ⟨b, 1, none⟩ = some (Value.int .i64 x.kind) := Blk.c h 1
theorem IBox.c2 (h : IBox w b x) : w.cell? ⟨b, 2, none⟩ = some (Value.string ⟨List.toArray x.cur⟩) := Blk.c h 2
theorem IBox.c3 (h : IBox w b x) : w.cell? ⟨b, 3, none⟩ = some (Value.int .i64 x.places) := Blk.c h 3
theorem IBox.c4 (h : IBox w b x) : w.cell? ⟨b, 4, none⟩ = some (Value.int .i64 x.issued) := Blk.c h 4
theorem IBox.c5 (h : IBox w b x) : w.cell? ⟨b, 5, none⟩ = some (Value.int .i64 x.matures) := Blk.c h 5
theorem IBox.c6 (h : IBox w b x) : w.cell? ⟨b, 6, none⟩ = some (Value.string ⟨List.toArray x.fn⟩) := Blk.c h 6
theorem IBox.c7 (h : IBox w b x) : w.cell? ⟨b, 7, none⟩ = some (Value.string ⟨List.toArray x.fd⟩) := Blk.c h 7
theorem IBox.c8 (h : IBox w b x) : w.cell? ⟨b, 8, none⟩ = some (Value.string ⟨List.toArray x.cn⟩) := Blk.c h 8
theorem IBox.c9 (h : IBox w b x) : w.cell? ⟨b, 9, none⟩ = some (Value.string ⟨List.toArray x.cd⟩) := Blk.c h 9
theorem IBox.c10 (h : IBox w b x) : w.cell? ⟨b, 10, none⟩ = some (Value.int .i64 x.months) := Blk.c h 10
theorem IBox.c11 (h : IBox w b x) : w.cell? ⟨b, 11, none⟩ = some (Value.int .i64 x.count) := Blk.c h 11
theorem IBox.c12 (h : IBox w b x) : w.cell? ⟨b, 12, none⟩ = some (Value.string ⟨List.toArray x.other⟩) := Blk.c h 12
theorem IBox.c13 (h : IBox w b x) : w.cell? ⟨b, 13, none⟩ = some (Value.string ⟨List.toArray x.sn⟩) := Blk.c h 13
theorem IBox.c14 (h : IBox w b x) : w.cell? ⟨b, 14, none⟩ = some (Value.string ⟨List.toArray x.sd⟩) := Blk.c h 14
theorem IBox.all (h : IBox w b x) : w.cell? ⟨b, 0, none⟩ = some (Value.string ⟨List.toArray x.id⟩) ∧ w.cell? ⟨b, 1, none⟩ = some (Value.int .i64 x.kind) ∧ w.cell? ⟨b, 2, none⟩ = some (Value.string ⟨List.toArray x.cur⟩) ∧ w.cell? ⟨b, 3, none⟩ = some (Value.int .i64 x.places) ∧ w.cell? ⟨b, 4, none⟩ = some (Value.int .i64 x.issued) ∧ w.cell? ⟨b, 5, none⟩ = some (Value.int .i64 x.matures) ∧ w.cell? ⟨b, 6, none⟩ = some (Value.string ⟨List.toArray x.fn⟩) ∧ w.cell? ⟨b, 7, none⟩ = some (Value.string ⟨List.toArray x.fd⟩) ∧ w.cell? ⟨b, 8, none⟩ = some (Value.string ⟨List.toArray x.cn⟩) ∧ w.cell? ⟨b, 9, none⟩ = some (Value.string ⟨List.toArray x.cd⟩) ∧ w.cell? ⟨b, 10, none⟩ = some (Value.int .i64 x.months) ∧ w.cell? ⟨b, 11, none⟩ = some (Value.int .i64 x.count) ∧ w.cell? ⟨b, 12, none⟩ = some (Value.string ⟨List.toArray x.other⟩) ∧ w.cell? ⟨b, 13, none⟩ = some (Value.string ⟨List.toArray x.sn⟩) ∧ w.cell? ⟨b, 14, none⟩ = some (Value.string ⟨List.toArray x.sd⟩) := ⟨h.c0, h.c1, h.c2, h.c3, h.c4, h.c5, h.c6, h.c7, h.c8, h.c9, h.c10, h.c11, h.c12, h.c13, h.c14⟩
end
structure Ins.Small (x : Ins) : Prop where
  id : x.id.length ≤ 60
  cur : x.cur.length ≤ 60
  other : x.other.length ≤ 60
  fn : x.fn.length ≤ 60
  fd : x.fd.length ≤ 60
  cn : x.cn.length ≤ 60
  cd : x.cd.length ≤ 60
  sn : x.sn.length ≤ 60
  sd : x.sd.length ≤ 60
def sg (l : List UInt8) : Int := cmpZ (val l) 0
def plainE (x : Ins) : Int := if sg x.fn ≠ 0 ∨ sg x.cn ≠ 0 ∨ x.months ≠ 0 ∨ x.count ≠ 0 ∨ sg x.sn ≠ 0 ∨ x.other ≠ [] then 1 else 0
def monthsB (m : Int) : Bool := decide (m ∈ [(1 : Int), 2, 3, 4, 6, 12])
def bondE (x : Ins) : Int := if sg x.fn ≤ 0 ∨ sg x.cn < 0 ∨ ¬ monthsB x.months = true ∨ x.count < 1 ∨ 5 < x.count then 2 else if x.other ≠ [] ∨ sg x.sn ≠ 0 then 1 else 0
def fwdE (x : Ins) : Int := if ¬ codeB x.other = true ∨ x.other = x.cur then 12 else if sg x.sn ≤ 0 then 2 else if sg x.fn ≠ 0 ∨ sg x.cn ≠ 0 ∨ x.months ≠ 0 ∨ x.count ≠ 0 then 1 else 0
def rulesV : Value := .agg #[.bool false, .nilFunc, .bool false, .func (Fn.func 191) #[] #[], .bool true, .func (Fn.func 192) #[] #[], .bool false, .func (Fn.func 191) #[] #[], .bool false, .func (Fn.func 191) #[] #[], .bool true, .func (Fn.func 193) #[] #[]]
set_option maxRecDepth 100000 in
theorem iRules : Ret 132 #[] rulesV := fun w _ => by
  go_enter Tryz.func132, Tryz.ntmps132
  go_wp2
  refine bodyPost_ret (v := rulesV) (by simp [results, Tryz.results132, go_sem, rulesV]) rfl ?_
  exact ⟨rfl, below_alloc _ _⟩
def idxL {α : Type} [DecidableEq α] (v : α) : List α → Nat → Int
  | [], _ => -1
  | a :: t, k => if v = a then (k : Int) else idxL v t (k + 1)
theorem idxL_drop {α : Type} [DecidableEq α] (v : α) (zs : List α) (k : Nat) (y : α) (h : zs[k]? = some y) : idxL v (zs.drop k) k = if v = y then (k : Int) else idxL v (zs.drop (k + 1)) (k + 1) := by
  obtain ⟨hk, rfl⟩ := List.getElem?_eq_some_iff.1 h
  rw [List.drop_eq_getElem_cons hk]; rfl
theorem idxL_mem {α : Type} [DecidableEq α] (v : α) : ∀ (zs : List α) (k : Nat), 0 ≤ idxL v zs k ↔ v ∈ zs
  | [], k => by simp [idxL]
  | a :: t, k => by
    unfold idxL
    by_cases h : v = a
    · simp [h]
    · rw [if_neg h, idxL_mem v t (k + 1)]; simp [h]
set_option maxHeartbeats 1000000 in
theorem idx_int (v : Int) (zs : List Int) (g c : Nat) (w : World) (h : Blk w g (zs.map (Value.int .i64)).toArray) (hl : zs.length ≤ 1000) :
    Calls Tryz.prog 265 #[.slice (some ⟨g, 0, none⟩) zs.length c, .int .i64 v] w fun e w' => e = .returned (.int .i64 (idxL v zs 0)) ∧ w = w' := by
  have HD := Lib.hid (fun k y h => idxL_drop v zs k y h)
  go_enter Tryz.func265, Tryz.ntmps265
  go_wp2_with fail
  go_loop [8] (fun iv => ∃ k : Nat, k ≤ zs.length ∧ iv = .int .i64 (k : Int) ∧ Hid (idxL v zs 0 = idxL v (zs.drop k) k)) (fun iv => zs.length - (intOf iv).toNat)
  case atStart => exact ⟨0, Nat.zero_le _, rfl, rfl⟩
  case round =>
    obtain ⟨k, hk, rfl, HK⟩ := hrel
    by_cases hlt : k < zs.length
    · obtain ⟨y, hy⟩ : ∃ y, zs[k]? = some y := ⟨_, List.getElem?_eq_getElem hlt⟩
      have hc : w.cell? ⟨g, k, none⟩ = some (.int .i64 y) := by rw [h.c k]; simp [hy]
      have HX := Lib.hid (HD.out k y hy)
      clear hy
      by_cases hv : v = y
      · have e1 : (v == y) = true := by rw [beq_iff_eq]; exact hv
        have HV : Hid (idxL v zs 0 = k) := by show _ = _; rw [HK.out, HX.out, if_pos hv]
        clear hv
        go_wp2
        go_ret
        exact ⟨reti HV.out.symm, rfl⟩
      · have e1 : (v == y) = false := by rw [beq_eq_false_iff_ne]; exact hv
        have HV : Hid (idxL v zs 0 = idxL v (zs.drop (k + 1)) (k + 1)) := by show _ = _; rw [HK.out, HX.out, if_neg hv]
        clear hv
        go_wp2
        go_round
        case rel => exact ⟨k + 1, by omega, by go_num, HV⟩
        case measure => simp [intOf]; omega
    · have HV : Hid (idxL v zs 0 = -1) := by show _ = _; rw [HK.out, List.drop_of_length_le (by omega)]; rfl
      go_wp2
      go_ret
      exact ⟨reti HV.out.symm, rfl⟩
theorem iContains (v : Int) (g : Nat) (w : World) (h : Blk w g #[.int .i64 1, .int .i64 2, .int .i64 3, .int .i64 4, .int .i64 6, .int .i64 12]) :
    Calls Tryz.prog 228 #[.slice (some ⟨g, 0, none⟩) 6 6, .int .i64 v] w fun e w' => e = .returned (.bool (monthsB v)) ∧ Below w.heap.size w w' := by
  have c1 : Calls Tryz.prog 265 #[.slice (some ⟨g, 0, none⟩) 6 6, .int .i64 v] w _ := idx_int v [1, 2, 3, 4, 6, 12] g 6 w h (by decide)
  have hm := idxL_mem v [1, 2, 3, 4, 6, 12] 0
  generalize idxL v [1, 2, 3, 4, 6, 12] 0 = i at *
  have HV : Hid (decide (0 ≤ i) = monthsB v) := by show _ = _; unfold monthsB; exact decide_eq_decide.2 hm
  have H1 := Lib.hid c1
  clear c1 hm
  go_enter Tryz.func228, Tryz.ntmps228
  go_wp2_with fail
  ((with_reducible refine H1.out.mono ?_); rintro e w' ⟨rfl, rfl⟩)
  go_wp2
  go_ret
  exact ⟨retb HV.out, Below.refl _ _⟩
set_option maxHeartbeats 2000000 in
set_option maxRecDepth 100000 in
theorem iPlain (x : Ins) (hx : x.Small) : Ret 191 #[(Value.agg #[Value.string ⟨List.toArray x.id⟩, Value.int .i64 x.kind, Value.string ⟨List.toArray x.cur⟩, Value.int .i64 x.places, Value.int .i64 x.issued, Value.int .i64 x.matures, Value.string ⟨List.toArray x.fn⟩, Value.string ⟨List.toArray x.fd⟩, Value.string ⟨List.toArray x.cn⟩, Value.string ⟨List.toArray x.cd⟩, Value.int .i64 x.months, Value.int .i64 x.count, Value.string ⟨List.toArray x.other⟩, Value.string ⟨List.toArray x.sn⟩, Value.string ⟨List.toArray x.sd⟩])] (.int .i64 (plainE x)) := fun w hG => by
  have C1 := Lib.hid (iSign (l := x.fn) (l' := x.fd) (Nat.le_trans hx.fn (by decide)) (c := sg x.fn) rfl)
  have C2 := Lib.hid (iSign (l := x.cn) (l' := x.cd) (Nat.le_trans hx.cn (by decide)) (c := sg x.cn) rfl)
  have C3 := Lib.hid (iSign (l := x.sn) (l' := x.sd) (Nat.le_trans hx.sn (by decide)) (c := sg x.sn) rfl)
  have x1 := IBox.new w x 27
  have hb := below_alloc w (.cells #[Value.string ⟨List.toArray x.id⟩, Value.int .i64 x.kind, Value.string ⟨List.toArray x.cur⟩, Value.int .i64 x.places, Value.int .i64 x.issued, Value.int .i64 x.matures, Value.string ⟨List.toArray x.fn⟩, Value.string ⟨List.toArray x.fd⟩, Value.string ⟨List.toArray x.cn⟩, Value.string ⟨List.toArray x.cd⟩, Value.int .i64 x.months, Value.int .i64 x.count, Value.string ⟨List.toArray x.other⟩, Value.string ⟨List.toArray x.sn⟩, Value.string ⟨List.toArray x.sd⟩] 27)
  by_cases h1 : sg x.fn = 0
  · have bh1 : (sg x.fn == 0) = true := by rw [beq_iff_eq]; exact h1
    have nh1 := bneq bh1
    by_cases h2 : sg x.cn = 0
    · have bh2 : (sg x.cn == 0) = true := by rw [beq_iff_eq]; exact h2
      have nh2 := bneq bh2
      by_cases h3 : x.months = 0
      · have bh3 : (x.months == 0) = true := by rw [beq_iff_eq]; exact h3
        have nh3 := bneq bh3
        by_cases h4 : x.count = 0
        · have bh4 : (x.count == 0) = true := by rw [beq_iff_eq]; exact h4
          have nh4 := bneq bh4
          by_cases h5 : sg x.sn = 0
          · have bh5 : (sg x.sn == 0) = true := by rw [beq_iff_eq]; exact h5
            have nh5 := bneq bh5
            by_cases h6 : x.other = []
            · have bh6 : (x.other == []) = true := by rw [beq_iff_eq]; exact h6
              have eh6 : (x.other).isEmpty = true := by rw [List.isEmpty_iff]; exact h6
              have HV : Hid (plainE x = 0) := by show _ = _; unfold plainE; rw [if_neg (fun h => h.elim (fun h => h h1) (fun h => h.elim (fun h => h h2) (fun h => h.elim (fun h => h h3) (fun h => h.elim (fun h => h h4) (fun h => h.elim (fun h => h h5) (fun h => h h6))))))]
              clear h1 h2 h3 h4 h5 h6
              go_enter Tryz.func191, Tryz.ntmps191
              obtain ⟨f0, f1, f2, f3, f4, f5, f6, f7, f8, f9, f10, f11, f12, f13, f14⟩ := x1.all
              go_wp2_with fail
              ((with_reducible refine (C1.out.of hG hb).mono ?_); rintro e w2 ⟨rfl, hb2⟩)
              clear f0 f1 f2 f3 f4 f5 f6 f7 f8 f9 f10 f11 f12 f13 f14
              replace x1 := x1.below hb2
              replace hb := bto hb hb2
              clear hb2
              obtain ⟨f0, f1, f2, f3, f4, f5, f6, f7, f8, f9, f10, f11, f12, f13, f14⟩ := x1.all
              go_wp2_with fail
              ((with_reducible refine (C2.out.of hG hb).mono ?_); rintro e w3 ⟨rfl, hb3⟩)
              clear f0 f1 f2 f3 f4 f5 f6 f7 f8 f9 f10 f11 f12 f13 f14
              replace x1 := x1.below hb3
              replace hb := bto hb hb3
              clear hb3
              obtain ⟨f0, f1, f2, f3, f4, f5, f6, f7, f8, f9, f10, f11, f12, f13, f14⟩ := x1.all
              go_wp2_with fail
              ((with_reducible refine (C3.out.of hG hb).mono ?_); rintro e w4 ⟨rfl, hb4⟩)
              clear f0 f1 f2 f3 f4 f5 f6 f7 f8 f9 f10 f11 f12 f13 f14
              replace x1 := x1.below hb4
              replace hb := bto hb hb4
              clear hb4
              obtain ⟨f0, f1, f2, f3, f4, f5, f6, f7, f8, f9, f10, f11, f12, f13, f14⟩ := x1.all
              go_wp2
              go_ret
              exact ⟨reti HV.out.symm, hb⟩
            · have bh6 : (x.other == []) = false := by rw [beq_eq_false_iff_ne]; exact h6
              have eh6 : (x.other).isEmpty = false := by rw [List.isEmpty_eq_false_iff]; exact h6
              have HV : Hid (plainE x = 1) := by show _ = _; unfold plainE; rw [if_pos (.inr (.inr (.inr (.inr (.inr h6)))))]
              clear h1 h2 h3 h4 h5 h6
              go_enter Tryz.func191, Tryz.ntmps191
              obtain ⟨f0, f1, f2, f3, f4, f5, f6, f7, f8, f9, f10, f11, f12, f13, f14⟩ := x1.all
              go_wp2_with fail
              ((with_reducible refine (C1.out.of hG hb).mono ?_); rintro e w2 ⟨rfl, hb2⟩)
              clear f0 f1 f2 f3 f4 f5 f6 f7 f8 f9 f10 f11 f12 f13 f14
              replace x1 := x1.below hb2
              replace hb := bto hb hb2
              clear hb2
              obtain ⟨f0, f1, f2, f3, f4, f5, f6, f7, f8, f9, f10, f11, f12, f13, f14⟩ := x1.all
              go_wp2_with fail
              ((with_reducible refine (C2.out.of hG hb).mono ?_); rintro e w3 ⟨rfl, hb3⟩)
              clear f0 f1 f2 f3 f4 f5 f6 f7 f8 f9 f10 f11 f12 f13 f14
              replace x1 := x1.below hb3
              replace hb := bto hb hb3
              clear hb3
              obtain ⟨f0, f1, f2, f3, f4, f5, f6, f7, f8, f9, f10, f11, f12, f13, f14⟩ := x1.all
              go_wp2_with fail
              ((with_reducible refine (C3.out.of hG hb).mono ?_); rintro e w4 ⟨rfl, hb4⟩)
              clear f0 f1 f2 f3 f4 f5 f6 f7 f8 f9 f10 f11 f12 f13 f14
              replace x1 := x1.below hb4
              replace hb := bto hb hb4
              clear hb4
              obtain ⟨f0, f1, f2, f3, f4, f5, f6, f7, f8, f9, f10, f11, f12, f13, f14⟩ := x1.all
              go_wp2
              go_ret
              exact ⟨reti HV.out.symm, hb⟩
          · have bh5 : (sg x.sn == 0) = false := by rw [beq_eq_false_iff_ne]; exact h5
            have nh5 := bneq' bh5
            have HV : Hid (plainE x = 1) := by show _ = _; unfold plainE; rw [if_pos (.inr (.inr (.inr (.inr (.inl h5)))))]
            clear h1 h2 h3 h4 h5
            go_enter Tryz.func191, Tryz.ntmps191
            obtain ⟨f0, f1, f2, f3, f4, f5, f6, f7, f8, f9, f10, f11, f12, f13, f14⟩ := x1.all
            go_wp2_with fail
            ((with_reducible refine (C1.out.of hG hb).mono ?_); rintro e w2 ⟨rfl, hb2⟩)
            clear f0 f1 f2 f3 f4 f5 f6 f7 f8 f9 f10 f11 f12 f13 f14
            replace x1 := x1.below hb2
            replace hb := bto hb hb2
            clear hb2
            obtain ⟨f0, f1, f2, f3, f4, f5, f6, f7, f8, f9, f10, f11, f12, f13, f14⟩ := x1.all
            go_wp2_with fail
            ((with_reducible refine (C2.out.of hG hb).mono ?_); rintro e w3 ⟨rfl, hb3⟩)
            clear f0 f1 f2 f3 f4 f5 f6 f7 f8 f9 f10 f11 f12 f13 f14
            replace x1 := x1.below hb3
            replace hb := bto hb hb3
            clear hb3
            obtain ⟨f0, f1, f2, f3, f4, f5, f6, f7, f8, f9, f10, f11, f12, f13, f14⟩ := x1.all
            go_wp2_with fail
            ((with_reducible refine (C3.out.of hG hb).mono ?_); rintro e w4 ⟨rfl, hb4⟩)
            clear f0 f1 f2 f3 f4 f5 f6 f7 f8 f9 f10 f11 f12 f13 f14
            replace x1 := x1.below hb4
            replace hb := bto hb hb4
            clear hb4
            obtain ⟨f0, f1, f2, f3, f4, f5, f6, f7, f8, f9, f10, f11, f12, f13, f14⟩ := x1.all
            go_wp2
            go_ret
            exact ⟨reti HV.out.symm, hb⟩
        · have bh4 : (x.count == 0) = false := by rw [beq_eq_false_iff_ne]; exact h4
          have nh4 := bneq' bh4
          have HV : Hid (plainE x = 1) := by show _ = _; unfold plainE; rw [if_pos (.inr (.inr (.inr (.inl h4))))]
          clear h1 h2 h3 h4
          go_enter Tryz.func191, Tryz.ntmps191
          obtain ⟨f0, f1, f2, f3, f4, f5, f6, f7, f8, f9, f10, f11, f12, f13, f14⟩ := x1.all
          go_wp2_with fail
          ((with_reducible refine (C1.out.of hG hb).mono ?_); rintro e w2 ⟨rfl, hb2⟩)
          clear f0 f1 f2 f3 f4 f5 f6 f7 f8 f9 f10 f11 f12 f13 f14
          replace x1 := x1.below hb2
          replace hb := bto hb hb2
          clear hb2
          obtain ⟨f0, f1, f2, f3, f4, f5, f6, f7, f8, f9, f10, f11, f12, f13, f14⟩ := x1.all
          go_wp2_with fail
          ((with_reducible refine (C2.out.of hG hb).mono ?_); rintro e w3 ⟨rfl, hb3⟩)
          clear f0 f1 f2 f3 f4 f5 f6 f7 f8 f9 f10 f11 f12 f13 f14
          replace x1 := x1.below hb3
          replace hb := bto hb hb3
          clear hb3
          obtain ⟨f0, f1, f2, f3, f4, f5, f6, f7, f8, f9, f10, f11, f12, f13, f14⟩ := x1.all
          go_wp2
          go_ret
          exact ⟨reti HV.out.symm, hb⟩
      · have bh3 : (x.months == 0) = false := by rw [beq_eq_false_iff_ne]; exact h3
        have nh3 := bneq' bh3
        have HV : Hid (plainE x = 1) := by show _ = _; unfold plainE; rw [if_pos (.inr (.inr (.inl h3)))]
        clear h1 h2 h3
        go_enter Tryz.func191, Tryz.ntmps191
        obtain ⟨f0, f1, f2, f3, f4, f5, f6, f7, f8, f9, f10, f11, f12, f13, f14⟩ := x1.all
        go_wp2_with fail
        ((with_reducible refine (C1.out.of hG hb).mono ?_); rintro e w2 ⟨rfl, hb2⟩)
        clear f0 f1 f2 f3 f4 f5 f6 f7 f8 f9 f10 f11 f12 f13 f14
        replace x1 := x1.below hb2
        replace hb := bto hb hb2
        clear hb2
        obtain ⟨f0, f1, f2, f3, f4, f5, f6, f7, f8, f9, f10, f11, f12, f13, f14⟩ := x1.all
        go_wp2_with fail
        ((with_reducible refine (C2.out.of hG hb).mono ?_); rintro e w3 ⟨rfl, hb3⟩)
        clear f0 f1 f2 f3 f4 f5 f6 f7 f8 f9 f10 f11 f12 f13 f14
        replace x1 := x1.below hb3
        replace hb := bto hb hb3
        clear hb3
        obtain ⟨f0, f1, f2, f3, f4, f5, f6, f7, f8, f9, f10, f11, f12, f13, f14⟩ := x1.all
        go_wp2
        go_ret
        exact ⟨reti HV.out.symm, hb⟩
    · have bh2 : (sg x.cn == 0) = false := by rw [beq_eq_false_iff_ne]; exact h2
      have nh2 := bneq' bh2
      have HV : Hid (plainE x = 1) := by show _ = _; unfold plainE; rw [if_pos (.inr (.inl h2))]
      clear h1 h2
      go_enter Tryz.func191, Tryz.ntmps191
      obtain ⟨f0, f1, f2, f3, f4, f5, f6, f7, f8, f9, f10, f11, f12, f13, f14⟩ := x1.all
      go_wp2_with fail
      ((with_reducible refine (C1.out.of hG hb).mono ?_); rintro e w2 ⟨rfl, hb2⟩)
      clear f0 f1 f2 f3 f4 f5 f6 f7 f8 f9 f10 f11 f12 f13 f14
      replace x1 := x1.below hb2
      replace hb := bto hb hb2
      clear hb2
      obtain ⟨f0, f1, f2, f3, f4, f5, f6, f7, f8, f9, f10, f11, f12, f13, f14⟩ := x1.all
      go_wp2_with fail
      ((with_reducible refine (C2.out.of hG hb).mono ?_); rintro e w3 ⟨rfl, hb3⟩)
      clear f0 f1 f2 f3 f4 f5 f6 f7 f8 f9 f10 f11 f12 f13 f14
      replace x1 := x1.below hb3
      replace hb := bto hb hb3
      clear hb3
      obtain ⟨f0, f1, f2, f3, f4, f5, f6, f7, f8, f9, f10, f11, f12, f13, f14⟩ := x1.all
      go_wp2
      go_ret
      exact ⟨reti HV.out.symm, hb⟩
  · have bh1 : (sg x.fn == 0) = false := by rw [beq_eq_false_iff_ne]; exact h1
    have nh1 := bneq' bh1
    have HV : Hid (plainE x = 1) := by show _ = _; unfold plainE; rw [if_pos (.inl h1)]
    clear h1
    go_enter Tryz.func191, Tryz.ntmps191
    obtain ⟨f0, f1, f2, f3, f4, f5, f6, f7, f8, f9, f10, f11, f12, f13, f14⟩ := x1.all
    go_wp2_with fail
    ((with_reducible refine (C1.out.of hG hb).mono ?_); rintro e w2 ⟨rfl, hb2⟩)
    clear f0 f1 f2 f3 f4 f5 f6 f7 f8 f9 f10 f11 f12 f13 f14
    replace x1 := x1.below hb2
    replace hb := bto hb hb2
    clear hb2
    obtain ⟨f0, f1, f2, f3, f4, f5, f6, f7, f8, f9, f10, f11, f12, f13, f14⟩ := x1.all
    go_wp2
    go_ret
    exact ⟨reti HV.out.symm, hb⟩
set_option maxHeartbeats 2000000 in
set_option maxRecDepth 100000 in
theorem iFwd (x : Ins) (hx : x.Small) : Ret 193 #[(Value.agg #[Value.string ⟨List.toArray x.id⟩, Value.int .i64 x.kind, Value.string ⟨List.toArray x.cur⟩, Value.int .i64 x.places, Value.int .i64 x.issued, Value.int .i64 x.matures, Value.string ⟨List.toArray x.fn⟩, Value.string ⟨List.toArray x.fd⟩, Value.string ⟨List.toArray x.cn⟩, Value.string ⟨List.toArray x.cd⟩, Value.int .i64 x.months, Value.int .i64 x.count, Value.string ⟨List.toArray x.other⟩, Value.string ⟨List.toArray x.sn⟩, Value.string ⟨List.toArray x.sd⟩])] (.int .i64 (fwdE x)) := fun w hG => by
  have C1 := Lib.hid (iSign (l := x.fn) (l' := x.fd) (Nat.le_trans hx.fn (by decide)) (c := sg x.fn) rfl)
  have C2 := Lib.hid (iSign (l := x.cn) (l' := x.cd) (Nat.le_trans hx.cn (by decide)) (c := sg x.cn) rfl)
  have C3 := Lib.hid (iSign (l := x.sn) (l' := x.sd) (Nat.le_trans hx.sn (by decide)) (c := sg x.sn) rfl)
  have C0 := Lib.hid (iCode (l := x.other) (Nat.le_trans hx.other (by decide)))
  have x1 := IBox.new w x 27
  have hb := below_alloc w (.cells #[Value.string ⟨List.toArray x.id⟩, Value.int .i64 x.kind, Value.string ⟨List.toArray x.cur⟩, Value.int .i64 x.places, Value.int .i64 x.issued, Value.int .i64 x.matures, Value.string ⟨List.toArray x.fn⟩, Value.string ⟨List.toArray x.fd⟩, Value.string ⟨List.toArray x.cn⟩, Value.string ⟨List.toArray x.cd⟩, Value.int .i64 x.months, Value.int .i64 x.count, Value.string ⟨List.toArray x.other⟩, Value.string ⟨List.toArray x.sn⟩, Value.string ⟨List.toArray x.sd⟩] 27)
  by_cases h1 : codeB x.other = true
  · have bh1 := h1
    by_cases h7 : x.other = x.cur
    · have bh7 : (x.other == x.cur) = true := by rw [beq_iff_eq]; exact h7
      have HV : Hid (fwdE x = 12) := by show _ = _; unfold fwdE; rw [if_pos (.inr h7)]
      clear h1 h7
      go_enter Tryz.func193, Tryz.ntmps193
      obtain ⟨f0, f1, f2, f3, f4, f5, f6, f7, f8, f9, f10, f11, f12, f13, f14⟩ := x1.all
      go_wp2_with fail
      ((with_reducible refine (C0.out.of hG hb).mono ?_); rintro e w2 ⟨rfl, hb2⟩)
      clear f0 f1 f2 f3 f4 f5 f6 f7 f8 f9 f10 f11 f12 f13 f14
      replace x1 := x1.below hb2
      replace hb := bto hb hb2
      clear hb2
      obtain ⟨f0, f1, f2, f3, f4, f5, f6, f7, f8, f9, f10, f11, f12, f13, f14⟩ := x1.all
      go_wp2
      go_ret
      exact ⟨reti HV.out.symm, hb⟩
    · have bh7 : (x.other == x.cur) = false := by rw [beq_eq_false_iff_ne]; exact h7
      by_cases h2 : sg x.sn ≤ 0
      · have bh2 : decide (sg x.sn ≤ 0) = true := decide_eq_true h2
        have HV : Hid (fwdE x = 2) := by show _ = _; unfold fwdE; rw [if_neg (fun h => h.elim (fun h => h h1) h7), if_pos h2]
        clear h1 h7
        go_enter Tryz.func193, Tryz.ntmps193
        obtain ⟨f0, f1, f2, f3, f4, f5, f6, f7, f8, f9, f10, f11, f12, f13, f14⟩ := x1.all
        go_wp2_with fail
        ((with_reducible refine (C0.out.of hG hb).mono ?_); rintro e w2 ⟨rfl, hb2⟩)
        clear f0 f1 f2 f3 f4 f5 f6 f7 f8 f9 f10 f11 f12 f13 f14
        replace x1 := x1.below hb2
        replace hb := bto hb hb2
        clear hb2
        obtain ⟨f0, f1, f2, f3, f4, f5, f6, f7, f8, f9, f10, f11, f12, f13, f14⟩ := x1.all
        go_wp2_with fail
        ((with_reducible refine (C3.out.of hG hb).mono ?_); rintro e w3 ⟨rfl, hb3⟩)
        clear f0 f1 f2 f3 f4 f5 f6 f7 f8 f9 f10 f11 f12 f13 f14
        replace x1 := x1.below hb3
        replace hb := bto hb hb3
        clear hb3
        obtain ⟨f0, f1, f2, f3, f4, f5, f6, f7, f8, f9, f10, f11, f12, f13, f14⟩ := x1.all
        go_wp2
        go_ret
        exact ⟨reti HV.out.symm, hb⟩
      · have bh2 : decide (sg x.sn ≤ 0) = false := decide_eq_false h2
        by_cases h3 : sg x.fn = 0
        · have bh3 : (sg x.fn == 0) = true := by rw [beq_iff_eq]; exact h3
          have nh3 := bneq bh3
          by_cases h4 : sg x.cn = 0
          · have bh4 : (sg x.cn == 0) = true := by rw [beq_iff_eq]; exact h4
            have nh4 := bneq bh4
            by_cases h5 : x.months = 0
            · have bh5 : (x.months == 0) = true := by rw [beq_iff_eq]; exact h5
              have nh5 := bneq bh5
              by_cases h6 : x.count = 0
              · have bh6 : (x.count == 0) = true := by rw [beq_iff_eq]; exact h6
                have nh6 := bneq bh6
                have HV : Hid (fwdE x = 0) := by show _ = _; unfold fwdE; rw [if_neg (fun h => h.elim (fun h => h h1) h7), if_neg h2, if_neg (fun h => h.elim (fun h => h h3) (fun h => h.elim (fun h => h h4) (fun h => h.elim (fun h => h h5) (fun h => h h6))))]
                clear h1 h7 h3 h4 h5 h6
                go_enter Tryz.func193, Tryz.ntmps193
                obtain ⟨f0, f1, f2, f3, f4, f5, f6, f7, f8, f9, f10, f11, f12, f13, f14⟩ := x1.all
                go_wp2_with fail
                ((with_reducible refine (C0.out.of hG hb).mono ?_); rintro e w2 ⟨rfl, hb2⟩)
                clear f0 f1 f2 f3 f4 f5 f6 f7 f8 f9 f10 f11 f12 f13 f14
                replace x1 := x1.below hb2
                replace hb := bto hb hb2
                clear hb2
                obtain ⟨f0, f1, f2, f3, f4, f5, f6, f7, f8, f9, f10, f11, f12, f13, f14⟩ := x1.all
                go_wp2_with fail
                ((with_reducible refine (C3.out.of hG hb).mono ?_); rintro e w3 ⟨rfl, hb3⟩)
                clear f0 f1 f2 f3 f4 f5 f6 f7 f8 f9 f10 f11 f12 f13 f14
                replace x1 := x1.below hb3
                replace hb := bto hb hb3
                clear hb3
                obtain ⟨f0, f1, f2, f3, f4, f5, f6, f7, f8, f9, f10, f11, f12, f13, f14⟩ := x1.all
                go_wp2_with fail
                ((with_reducible refine (C1.out.of hG hb).mono ?_); rintro e w4 ⟨rfl, hb4⟩)
                clear f0 f1 f2 f3 f4 f5 f6 f7 f8 f9 f10 f11 f12 f13 f14
                replace x1 := x1.below hb4
                replace hb := bto hb hb4
                clear hb4
                obtain ⟨f0, f1, f2, f3, f4, f5, f6, f7, f8, f9, f10, f11, f12, f13, f14⟩ := x1.all
                go_wp2_with fail
                ((with_reducible refine (C2.out.of hG hb).mono ?_); rintro e w5 ⟨rfl, hb5⟩)
                clear f0 f1 f2 f3 f4 f5 f6 f7 f8 f9 f10 f11 f12 f13 f14
                replace x1 := x1.below hb5
                replace hb := bto hb hb5
                clear hb5
                obtain ⟨f0, f1, f2, f3, f4, f5, f6, f7, f8, f9, f10, f11, f12, f13, f14⟩ := x1.all
                go_wp2
                go_ret
                exact ⟨reti HV.out.symm, hb⟩
              · have bh6 : (x.count == 0) = false := by rw [beq_eq_false_iff_ne]; exact h6
                have nh6 := bneq' bh6
                have HV : Hid (fwdE x = 1) := by show _ = _; unfold fwdE; rw [if_neg (fun h => h.elim (fun h => h h1) h7), if_neg h2, if_pos (.inr (.inr (.inr h6)))]
                clear h1 h7 h3 h4 h5 h6
                go_enter Tryz.func193, Tryz.ntmps193
                obtain ⟨f0, f1, f2, f3, f4, f5, f6, f7, f8, f9, f10, f11, f12, f13, f14⟩ := x1.all
                go_wp2_with fail
                ((with_reducible refine (C0.out.of hG hb).mono ?_); rintro e w2 ⟨rfl, hb2⟩)
                clear f0 f1 f2 f3 f4 f5 f6 f7 f8 f9 f10 f11 f12 f13 f14
                replace x1 := x1.below hb2
                replace hb := bto hb hb2
                clear hb2
                obtain ⟨f0, f1, f2, f3, f4, f5, f6, f7, f8, f9, f10, f11, f12, f13, f14⟩ := x1.all
                go_wp2_with fail
                ((with_reducible refine (C3.out.of hG hb).mono ?_); rintro e w3 ⟨rfl, hb3⟩)
                clear f0 f1 f2 f3 f4 f5 f6 f7 f8 f9 f10 f11 f12 f13 f14
                replace x1 := x1.below hb3
                replace hb := bto hb hb3
                clear hb3
                obtain ⟨f0, f1, f2, f3, f4, f5, f6, f7, f8, f9, f10, f11, f12, f13, f14⟩ := x1.all
                go_wp2_with fail
                ((with_reducible refine (C1.out.of hG hb).mono ?_); rintro e w4 ⟨rfl, hb4⟩)
                clear f0 f1 f2 f3 f4 f5 f6 f7 f8 f9 f10 f11 f12 f13 f14
                replace x1 := x1.below hb4
                replace hb := bto hb hb4
                clear hb4
                obtain ⟨f0, f1, f2, f3, f4, f5, f6, f7, f8, f9, f10, f11, f12, f13, f14⟩ := x1.all
                go_wp2_with fail
                ((with_reducible refine (C2.out.of hG hb).mono ?_); rintro e w5 ⟨rfl, hb5⟩)
                clear f0 f1 f2 f3 f4 f5 f6 f7 f8 f9 f10 f11 f12 f13 f14
                replace x1 := x1.below hb5
                replace hb := bto hb hb5
                clear hb5
                obtain ⟨f0, f1, f2, f3, f4, f5, f6, f7, f8, f9, f10, f11, f12, f13, f14⟩ := x1.all
                go_wp2
                go_ret
                exact ⟨reti HV.out.symm, hb⟩
            · have bh5 : (x.months == 0) = false := by rw [beq_eq_false_iff_ne]; exact h5
              have nh5 := bneq' bh5
              have HV : Hid (fwdE x = 1) := by show _ = _; unfold fwdE; rw [if_neg (fun h => h.elim (fun h => h h1) h7), if_neg h2, if_pos (.inr (.inr (.inl h5)))]
              clear h1 h7 h3 h4 h5
              go_enter Tryz.func193, Tryz.ntmps193
              obtain ⟨f0, f1, f2, f3, f4, f5, f6, f7, f8, f9, f10, f11, f12, f13, f14⟩ := x1.all
              go_wp2_with fail
              ((with_reducible refine (C0.out.of hG hb).mono ?_); rintro e w2 ⟨rfl, hb2⟩)
              clear f0 f1 f2 f3 f4 f5 f6 f7 f8 f9 f10 f11 f12 f13 f14
              replace x1 := x1.below hb2
              replace hb := bto hb hb2
              clear hb2
              obtain ⟨f0, f1, f2, f3, f4, f5, f6, f7, f8, f9, f10, f11, f12, f13, f14⟩ := x1.all
              go_wp2_with fail
              ((with_reducible refine (C3.out.of hG hb).mono ?_); rintro e w3 ⟨rfl, hb3⟩)
              clear f0 f1 f2 f3 f4 f5 f6 f7 f8 f9 f10 f11 f12 f13 f14
              replace x1 := x1.below hb3
              replace hb := bto hb hb3
              clear hb3
              obtain ⟨f0, f1, f2, f3, f4, f5, f6, f7, f8, f9, f10, f11, f12, f13, f14⟩ := x1.all
              go_wp2_with fail
              ((with_reducible refine (C1.out.of hG hb).mono ?_); rintro e w4 ⟨rfl, hb4⟩)
              clear f0 f1 f2 f3 f4 f5 f6 f7 f8 f9 f10 f11 f12 f13 f14
              replace x1 := x1.below hb4
              replace hb := bto hb hb4
              clear hb4
              obtain ⟨f0, f1, f2, f3, f4, f5, f6, f7, f8, f9, f10, f11, f12, f13, f14⟩ := x1.all
              go_wp2_with fail
              ((with_reducible refine (C2.out.of hG hb).mono ?_); rintro e w5 ⟨rfl, hb5⟩)
              clear f0 f1 f2 f3 f4 f5 f6 f7 f8 f9 f10 f11 f12 f13 f14
              replace x1 := x1.below hb5
              replace hb := bto hb hb5
              clear hb5
              obtain ⟨f0, f1, f2, f3, f4, f5, f6, f7, f8, f9, f10, f11, f12, f13, f14⟩ := x1.all
              go_wp2
              go_ret
              exact ⟨reti HV.out.symm, hb⟩
          · have bh4 : (sg x.cn == 0) = false := by rw [beq_eq_false_iff_ne]; exact h4
            have nh4 := bneq' bh4
            have HV : Hid (fwdE x = 1) := by show _ = _; unfold fwdE; rw [if_neg (fun h => h.elim (fun h => h h1) h7), if_neg h2, if_pos (.inr (.inl h4))]
            clear h1 h7 h3 h4
            go_enter Tryz.func193, Tryz.ntmps193
            obtain ⟨f0, f1, f2, f3, f4, f5, f6, f7, f8, f9, f10, f11, f12, f13, f14⟩ := x1.all
            go_wp2_with fail
            ((with_reducible refine (C0.out.of hG hb).mono ?_); rintro e w2 ⟨rfl, hb2⟩)
            clear f0 f1 f2 f3 f4 f5 f6 f7 f8 f9 f10 f11 f12 f13 f14
            replace x1 := x1.below hb2
            replace hb := bto hb hb2
            clear hb2
            obtain ⟨f0, f1, f2, f3, f4, f5, f6, f7, f8, f9, f10, f11, f12, f13, f14⟩ := x1.all
            go_wp2_with fail
            ((with_reducible refine (C3.out.of hG hb).mono ?_); rintro e w3 ⟨rfl, hb3⟩)
            clear f0 f1 f2 f3 f4 f5 f6 f7 f8 f9 f10 f11 f12 f13 f14
            replace x1 := x1.below hb3
            replace hb := bto hb hb3
            clear hb3
            obtain ⟨f0, f1, f2, f3, f4, f5, f6, f7, f8, f9, f10, f11, f12, f13, f14⟩ := x1.all
            go_wp2_with fail
            ((with_reducible refine (C1.out.of hG hb).mono ?_); rintro e w4 ⟨rfl, hb4⟩)
            clear f0 f1 f2 f3 f4 f5 f6 f7 f8 f9 f10 f11 f12 f13 f14
            replace x1 := x1.below hb4
            replace hb := bto hb hb4
            clear hb4
            obtain ⟨f0, f1, f2, f3, f4, f5, f6, f7, f8, f9, f10, f11, f12, f13, f14⟩ := x1.all
            go_wp2_with fail
            ((with_reducible refine (C2.out.of hG hb).mono ?_); rintro e w5 ⟨rfl, hb5⟩)
            clear f0 f1 f2 f3 f4 f5 f6 f7 f8 f9 f10 f11 f12 f13 f14
            replace x1 := x1.below hb5
            replace hb := bto hb hb5
            clear hb5
            obtain ⟨f0, f1, f2, f3, f4, f5, f6, f7, f8, f9, f10, f11, f12, f13, f14⟩ := x1.all
            go_wp2
            go_ret
            exact ⟨reti HV.out.symm, hb⟩
        · have bh3 : (sg x.fn == 0) = false := by rw [beq_eq_false_iff_ne]; exact h3
          have nh3 := bneq' bh3
          have HV : Hid (fwdE x = 1) := by show _ = _; unfold fwdE; rw [if_neg (fun h => h.elim (fun h => h h1) h7), if_neg h2, if_pos (.inl h3)]
          clear h1 h7 h3
          go_enter Tryz.func193, Tryz.ntmps193
          obtain ⟨f0, f1, f2, f3, f4, f5, f6, f7, f8, f9, f10, f11, f12, f13, f14⟩ := x1.all
          go_wp2_with fail
          ((with_reducible refine (C0.out.of hG hb).mono ?_); rintro e w2 ⟨rfl, hb2⟩)
          clear f0 f1 f2 f3 f4 f5 f6 f7 f8 f9 f10 f11 f12 f13 f14
          replace x1 := x1.below hb2
          replace hb := bto hb hb2
          clear hb2
          obtain ⟨f0, f1, f2, f3, f4, f5, f6, f7, f8, f9, f10, f11, f12, f13, f14⟩ := x1.all
          go_wp2_with fail
          ((with_reducible refine (C3.out.of hG hb).mono ?_); rintro e w3 ⟨rfl, hb3⟩)
          clear f0 f1 f2 f3 f4 f5 f6 f7 f8 f9 f10 f11 f12 f13 f14
          replace x1 := x1.below hb3
          replace hb := bto hb hb3
          clear hb3
          obtain ⟨f0, f1, f2, f3, f4, f5, f6, f7, f8, f9, f10, f11, f12, f13, f14⟩ := x1.all
          go_wp2_with fail
          ((with_reducible refine (C1.out.of hG hb).mono ?_); rintro e w4 ⟨rfl, hb4⟩)
          clear f0 f1 f2 f3 f4 f5 f6 f7 f8 f9 f10 f11 f12 f13 f14
          replace x1 := x1.below hb4
          replace hb := bto hb hb4
          clear hb4
          obtain ⟨f0, f1, f2, f3, f4, f5, f6, f7, f8, f9, f10, f11, f12, f13, f14⟩ := x1.all
          go_wp2
          go_ret
          exact ⟨reti HV.out.symm, hb⟩
  · have bh1 : codeB x.other = false := not_true_b h1
    have HV : Hid (fwdE x = 12) := by show _ = _; unfold fwdE; rw [if_pos (.inl h1)]
    clear h1
    go_enter Tryz.func193, Tryz.ntmps193
    obtain ⟨f0, f1, f2, f3, f4, f5, f6, f7, f8, f9, f10, f11, f12, f13, f14⟩ := x1.all
    go_wp2_with fail
    ((with_reducible refine (C0.out.of hG hb).mono ?_); rintro e w2 ⟨rfl, hb2⟩)
    clear f0 f1 f2 f3 f4 f5 f6 f7 f8 f9 f10 f11 f12 f13 f14
    replace x1 := x1.below hb2
    replace hb := bto hb hb2
    clear hb2
    obtain ⟨f0, f1, f2, f3, f4, f5, f6, f7, f8, f9, f10, f11, f12, f13, f14⟩ := x1.all
    go_wp2
    go_ret
    exact ⟨reti HV.out.symm, hb⟩
set_option maxHeartbeats 2000000 in
set_option maxRecDepth 100000 in
theorem iBond (x : Ins) (hx : x.Small) : Ret 192 #[(Value.agg #[Value.string ⟨List.toArray x.id⟩, Value.int .i64 x.kind, Value.string ⟨List.toArray x.cur⟩, Value.int .i64 x.places, Value.int .i64 x.issued, Value.int .i64 x.matures, Value.string ⟨List.toArray x.fn⟩, Value.string ⟨List.toArray x.fd⟩, Value.string ⟨List.toArray x.cn⟩, Value.string ⟨List.toArray x.cd⟩, Value.int .i64 x.months, Value.int .i64 x.count, Value.string ⟨List.toArray x.other⟩, Value.string ⟨List.toArray x.sn⟩, Value.string ⟨List.toArray x.sd⟩])] (.int .i64 (bondE x)) := fun w hG => by
  have C1 := Lib.hid (iSign (l := x.fn) (l' := x.fd) (Nat.le_trans hx.fn (by decide)) (c := sg x.fn) rfl)
  have C2 := Lib.hid (iSign (l := x.cn) (l' := x.cd) (Nat.le_trans hx.cn (by decide)) (c := sg x.cn) rfl)
  have C3 := Lib.hid (iSign (l := x.sn) (l' := x.sd) (Nat.le_trans hx.sn (by decide)) (c := sg x.sn) rfl)
  have x1 := (IBox.new w x 27).below (below_alloc _ (.cells #[.int .i64 1, .int .i64 2, .int .i64 3, .int .i64 4, .int .i64 6, .int .i64 12] 214))
  have x3 := Blk.new (w.alloc (.cells #[Value.string ⟨List.toArray x.id⟩, Value.int .i64 x.kind, Value.string ⟨List.toArray x.cur⟩, Value.int .i64 x.places, Value.int .i64 x.issued, Value.int .i64 x.matures, Value.string ⟨List.toArray x.fn⟩, Value.string ⟨List.toArray x.fd⟩, Value.string ⟨List.toArray x.cn⟩, Value.string ⟨List.toArray x.cd⟩, Value.int .i64 x.months, Value.int .i64 x.count, Value.string ⟨List.toArray x.other⟩, Value.string ⟨List.toArray x.sn⟩, Value.string ⟨List.toArray x.sd⟩] 27)) #[.int .i64 1, .int .i64 2, .int .i64 3, .int .i64 4, .int .i64 6, .int .i64 12] 214
  rw [World.size_alloc] at x3
  have hb := bto (below_alloc w (.cells #[Value.string ⟨List.toArray x.id⟩, Value.int .i64 x.kind, Value.string ⟨List.toArray x.cur⟩, Value.int .i64 x.places, Value.int .i64 x.issued, Value.int .i64 x.matures, Value.string ⟨List.toArray x.fn⟩, Value.string ⟨List.toArray x.fd⟩, Value.string ⟨List.toArray x.cn⟩, Value.string ⟨List.toArray x.cd⟩, Value.int .i64 x.months, Value.int .i64 x.count, Value.string ⟨List.toArray x.other⟩, Value.string ⟨List.toArray x.sn⟩, Value.string ⟨List.toArray x.sd⟩] 27)) (below_alloc _ (.cells #[.int .i64 1, .int .i64 2, .int .i64 3, .int .i64 4, .int .i64 6, .int .i64 12] 214))
  by_cases h1 : sg x.fn ≤ 0
  · have bh1 : decide (sg x.fn ≤ 0) = true := decide_eq_true h1
    have HV : Hid (bondE x = 2) := by show _ = _; unfold bondE; rw [if_pos (.inl h1)]
    skip
    go_enter Tryz.func192, Tryz.ntmps192
    go_wp2_with fail
    refine wp_region_kept (by kernel_rfl) (by kernel_rfl) ?_
    refine kept_val _ (fun _ => rfl) (fun ρ w hw => by go_simp; first | done | with_reducible rfl) ?_
    simp only [Act.put, StT, StZ, StS, Nat.reduceAdd]
    refine kept_val _ (fun _ => rfl) (fun ρ w hw => by have q6 := (x1.below hw).c6; have q7 := (x1.below hw).c7; go_simp; first | done | with_reducible rfl) ?_
    simp only [Act.put, StT, StZ, StS, Nat.reduceAdd]
    refine kept_call _ _ _ (fun _ => rfl) (fun ρ w hw => by go_simp; first | done | with_reducible rfl) (fun w hw => C1.out.of hG (bto hb hw)) ?_
    iterate 2
      simp only [Act.put, StT, StZ, StS, Nat.reduceAdd]
      refine kept_val _ (fun _ => rfl) (fun ρ w hw => by go_simp; first | done | with_reducible rfl) ?_
    iterate 4
      simp only [Act.put, StT, StZ, StS, Nat.reduceAdd]
      refine kept_off (fun _ => rfl) ?_
    iterate 2
      simp only [Act.put, StT, StZ, StS, Nat.reduceAdd]
      refine kept_val _ (fun _ => rfl) (fun ρ w hw => by go_simp; first | done | with_reducible rfl) ?_
    iterate 5
      simp only [Act.put, StT, StZ, StS, Nat.reduceAdd]
      refine kept_off (fun _ => rfl) ?_
    iterate 2
      simp only [Act.put, StT, StZ, StS, Nat.reduceAdd]
      refine kept_val _ (fun _ => rfl) (fun ρ w hw => by go_simp; first | done | with_reducible rfl) ?_
    iterate 3
      simp only [Act.put, StT, StZ, StS, Nat.reduceAdd]
      refine kept_off (fun _ => rfl) ?_
    iterate 2
      simp only [Act.put, StT, StZ, StS, Nat.reduceAdd]
      refine kept_val _ (fun _ => rfl) (fun ρ w hw => by go_simp; first | done | with_reducible rfl) ?_
    iterate 3
      simp only [Act.put, StT, StZ, StS, Nat.reduceAdd]
      refine kept_off (fun _ => rfl) ?_
    iterate 2
      simp only [Act.put, StT, StZ, StS, Nat.reduceAdd]
      refine kept_val _ (fun _ => rfl) (fun ρ w hw => by go_simp; first | done | with_reducible rfl) ?_
    simp only [Act.put, StT, StZ, StS, Nat.reduceAdd]
    refine kept_end (fun ρ w2 hF => ?_)
    replace x1 := x1.below hF.below
    replace x3 := x3.below hF.below
    replace hb := bto hb hF.below
    clear hF
    obtain ⟨f0, f1, f2, f3, f4, f5, f6, f7, f8, f9, f10, f11, f12, f13, f14⟩ := x1.all
    go_wp2
    go_ret
    exact ⟨reti HV.out.symm, hb⟩
  · have bh1 : decide (sg x.fn ≤ 0) = false := decide_eq_false h1
    by_cases h2 : sg x.cn < 0
    · have bh2 : decide (sg x.cn < 0) = true := decide_eq_true h2
      have HV : Hid (bondE x = 2) := by show _ = _; unfold bondE; rw [if_pos (.inr (.inl h2))]
      skip
      go_enter Tryz.func192, Tryz.ntmps192
      go_wp2_with fail
      refine wp_region_kept (by kernel_rfl) (by kernel_rfl) ?_
      refine kept_val _ (fun _ => rfl) (fun ρ w hw => by go_simp; first | done | with_reducible rfl) ?_
      simp only [Act.put, StT, StZ, StS, Nat.reduceAdd]
      refine kept_val _ (fun _ => rfl) (fun ρ w hw => by have q6 := (x1.below hw).c6; have q7 := (x1.below hw).c7; go_simp; first | done | with_reducible rfl) ?_
      simp only [Act.put, StT, StZ, StS, Nat.reduceAdd]
      refine kept_call _ _ _ (fun _ => rfl) (fun ρ w hw => by go_simp; first | done | with_reducible rfl) (fun w hw => C1.out.of hG (bto hb hw)) ?_
      iterate 3
        simp only [Act.put, StT, StZ, StS, Nat.reduceAdd]
        refine kept_val _ (fun _ => rfl) (fun ρ w hw => by go_simp; first | done | with_reducible rfl) ?_
      simp only [Act.put, StT, StZ, StS, Nat.reduceAdd]
      refine kept_val _ (fun _ => rfl) (fun ρ w hw => by have q8 := (x1.below hw).c8; have q9 := (x1.below hw).c9; go_simp; first | done | with_reducible rfl) ?_
      simp only [Act.put, StT, StZ, StS, Nat.reduceAdd]
      refine kept_call _ _ _ (fun _ => rfl) (fun ρ w hw => by go_simp; first | done | with_reducible rfl) (fun w hw => C2.out.of hG (bto hb hw)) ?_
      iterate 3
        simp only [Act.put, StT, StZ, StS, Nat.reduceAdd]
        refine kept_val _ (fun _ => rfl) (fun ρ w hw => by go_simp; first | done | with_reducible rfl) ?_
      iterate 5
        simp only [Act.put, StT, StZ, StS, Nat.reduceAdd]
        refine kept_off (fun _ => rfl) ?_
      iterate 2
        simp only [Act.put, StT, StZ, StS, Nat.reduceAdd]
        refine kept_val _ (fun _ => rfl) (fun ρ w hw => by go_simp; first | done | with_reducible rfl) ?_
      iterate 3
        simp only [Act.put, StT, StZ, StS, Nat.reduceAdd]
        refine kept_off (fun _ => rfl) ?_
      iterate 2
        simp only [Act.put, StT, StZ, StS, Nat.reduceAdd]
        refine kept_val _ (fun _ => rfl) (fun ρ w hw => by go_simp; first | done | with_reducible rfl) ?_
      iterate 3
        simp only [Act.put, StT, StZ, StS, Nat.reduceAdd]
        refine kept_off (fun _ => rfl) ?_
      iterate 2
        simp only [Act.put, StT, StZ, StS, Nat.reduceAdd]
        refine kept_val _ (fun _ => rfl) (fun ρ w hw => by go_simp; first | done | with_reducible rfl) ?_
      simp only [Act.put, StT, StZ, StS, Nat.reduceAdd]
      refine kept_end (fun ρ w2 hF => ?_)
      replace x1 := x1.below hF.below
      replace x3 := x3.below hF.below
      replace hb := bto hb hF.below
      clear hF
      obtain ⟨f0, f1, f2, f3, f4, f5, f6, f7, f8, f9, f10, f11, f12, f13, f14⟩ := x1.all
      go_wp2
      go_ret
      exact ⟨reti HV.out.symm, hb⟩
    · have bh2 : decide (sg x.cn < 0) = false := decide_eq_false h2
      by_cases h3 : monthsB x.months = true
      · have bh3 := h3
        by_cases h4 : x.count < 1
        · have bh4 : decide (x.count < 1) = true := decide_eq_true h4
          have HV : Hid (bondE x = 2) := by show _ = _; unfold bondE; rw [if_pos (.inr (.inr (.inr (.inl h4))))]
          clear h3
          go_enter Tryz.func192, Tryz.ntmps192
          go_wp2_with fail
          refine wp_region_kept (by kernel_rfl) (by kernel_rfl) ?_
          refine kept_val _ (fun _ => rfl) (fun ρ w hw => by go_simp; first | done | with_reducible rfl) ?_
          simp only [Act.put, StT, StZ, StS, Nat.reduceAdd]
          refine kept_val _ (fun _ => rfl) (fun ρ w hw => by have q6 := (x1.below hw).c6; have q7 := (x1.below hw).c7; go_simp; first | done | with_reducible rfl) ?_
          simp only [Act.put, StT, StZ, StS, Nat.reduceAdd]
          refine kept_call _ _ _ (fun _ => rfl) (fun ρ w hw => by go_simp; first | done | with_reducible rfl) (fun w hw => C1.out.of hG (bto hb hw)) ?_
          iterate 3
            simp only [Act.put, StT, StZ, StS, Nat.reduceAdd]
            refine kept_val _ (fun _ => rfl) (fun ρ w hw => by go_simp; first | done | with_reducible rfl) ?_
          simp only [Act.put, StT, StZ, StS, Nat.reduceAdd]
          refine kept_val _ (fun _ => rfl) (fun ρ w hw => by have q8 := (x1.below hw).c8; have q9 := (x1.below hw).c9; go_simp; first | done | with_reducible rfl) ?_
          simp only [Act.put, StT, StZ, StS, Nat.reduceAdd]
          refine kept_call _ _ _ (fun _ => rfl) (fun ρ w hw => by go_simp; first | done | with_reducible rfl) (fun w hw => C2.out.of hG (bto hb hw)) ?_
          iterate 5
            simp only [Act.put, StT, StZ, StS, Nat.reduceAdd]
            refine kept_val _ (fun _ => rfl) (fun ρ w hw => by go_simp; first | done | with_reducible rfl) ?_
          simp only [Act.put, StT, StZ, StS, Nat.reduceAdd]
          refine kept_val _ (fun _ => rfl) (fun ρ w hw => by have q10 := (x1.below hw).c10; go_simp; first | done | with_reducible rfl) ?_
          simp only [Act.put, StT, StZ, StS, Nat.reduceAdd]
          refine kept_call _ _ _ (fun _ => rfl) (fun ρ w hw => by go_simp; first | done | with_reducible rfl) (fun w hw => iContains x.months _ _ (x3.below hw)) ?_
          iterate 4
            simp only [Act.put, StT, StZ, StS, Nat.reduceAdd]
            refine kept_val _ (fun _ => rfl) (fun ρ w hw => by go_simp; first | done | with_reducible rfl) ?_
          simp only [Act.put, StT, StZ, StS, Nat.reduceAdd]
          refine kept_val _ (fun _ => rfl) (fun ρ w hw => by have q11 := (x1.below hw).c11; go_simp; first | done | with_reducible rfl) ?_
          iterate 3
            simp only [Act.put, StT, StZ, StS, Nat.reduceAdd]
            refine kept_val _ (fun _ => rfl) (fun ρ w hw => by go_simp; first | done | with_reducible rfl) ?_
          iterate 3
            simp only [Act.put, StT, StZ, StS, Nat.reduceAdd]
            refine kept_off (fun _ => rfl) ?_
          iterate 2
            simp only [Act.put, StT, StZ, StS, Nat.reduceAdd]
            refine kept_val _ (fun _ => rfl) (fun ρ w hw => by go_simp; first | done | with_reducible rfl) ?_
          simp only [Act.put, StT, StZ, StS, Nat.reduceAdd]
          refine kept_end (fun ρ w2 hF => ?_)
          replace x1 := x1.below hF.below
          replace x3 := x3.below hF.below
          replace hb := bto hb hF.below
          clear hF
          obtain ⟨f0, f1, f2, f3, f4, f5, f6, f7, f8, f9, f10, f11, f12, f13, f14⟩ := x1.all
          go_wp2
          go_ret
          exact ⟨reti HV.out.symm, hb⟩
        · have bh4 : decide (x.count < 1) = false := decide_eq_false h4
          by_cases h5 : 5 < x.count
          · have bh5 : decide (5 < x.count) = true := decide_eq_true h5
            have HV : Hid (bondE x = 2) := by show _ = _; unfold bondE; rw [if_pos (.inr (.inr (.inr (.inr h5))))]
            clear h3
            go_enter Tryz.func192, Tryz.ntmps192
            go_wp2_with fail
            refine wp_region_kept (by kernel_rfl) (by kernel_rfl) ?_
            refine kept_val _ (fun _ => rfl) (fun ρ w hw => by go_simp; first | done | with_reducible rfl) ?_
            simp only [Act.put, StT, StZ, StS, Nat.reduceAdd]
            refine kept_val _ (fun _ => rfl) (fun ρ w hw => by have q6 := (x1.below hw).c6; have q7 := (x1.below hw).c7; go_simp; first | done | with_reducible rfl) ?_
            simp only [Act.put, StT, StZ, StS, Nat.reduceAdd]
            refine kept_call _ _ _ (fun _ => rfl) (fun ρ w hw => by go_simp; first | done | with_reducible rfl) (fun w hw => C1.out.of hG (bto hb hw)) ?_
            iterate 3
              simp only [Act.put, StT, StZ, StS, Nat.reduceAdd]
              refine kept_val _ (fun _ => rfl) (fun ρ w hw => by go_simp; first | done | with_reducible rfl) ?_
            simp only [Act.put, StT, StZ, StS, Nat.reduceAdd]
            refine kept_val _ (fun _ => rfl) (fun ρ w hw => by have q8 := (x1.below hw).c8; have q9 := (x1.below hw).c9; go_simp; first | done | with_reducible rfl) ?_
            simp only [Act.put, StT, StZ, StS, Nat.reduceAdd]
            refine kept_call _ _ _ (fun _ => rfl) (fun ρ w hw => by go_simp; first | done | with_reducible rfl) (fun w hw => C2.out.of hG (bto hb hw)) ?_
            iterate 5
              simp only [Act.put, StT, StZ, StS, Nat.reduceAdd]
              refine kept_val _ (fun _ => rfl) (fun ρ w hw => by go_simp; first | done | with_reducible rfl) ?_
            simp only [Act.put, StT, StZ, StS, Nat.reduceAdd]
            refine kept_val _ (fun _ => rfl) (fun ρ w hw => by have q10 := (x1.below hw).c10; go_simp; first | done | with_reducible rfl) ?_
            simp only [Act.put, StT, StZ, StS, Nat.reduceAdd]
            refine kept_call _ _ _ (fun _ => rfl) (fun ρ w hw => by go_simp; first | done | with_reducible rfl) (fun w hw => iContains x.months _ _ (x3.below hw)) ?_
            iterate 4
              simp only [Act.put, StT, StZ, StS, Nat.reduceAdd]
              refine kept_val _ (fun _ => rfl) (fun ρ w hw => by go_simp; first | done | with_reducible rfl) ?_
            simp only [Act.put, StT, StZ, StS, Nat.reduceAdd]
            refine kept_val _ (fun _ => rfl) (fun ρ w hw => by have q11 := (x1.below hw).c11; go_simp; first | done | with_reducible rfl) ?_
            iterate 4
              simp only [Act.put, StT, StZ, StS, Nat.reduceAdd]
              refine kept_val _ (fun _ => rfl) (fun ρ w hw => by go_simp; first | done | with_reducible rfl) ?_
            simp only [Act.put, StT, StZ, StS, Nat.reduceAdd]
            refine kept_val _ (fun _ => rfl) (fun ρ w hw => by have q11 := (x1.below hw).c11; go_simp; first | done | with_reducible rfl) ?_
            iterate 3
              simp only [Act.put, StT, StZ, StS, Nat.reduceAdd]
              refine kept_val _ (fun _ => rfl) (fun ρ w hw => by go_simp; first | done | with_reducible rfl) ?_
            simp only [Act.put, StT, StZ, StS, Nat.reduceAdd]
            refine kept_end (fun ρ w2 hF => ?_)
            replace x1 := x1.below hF.below
            replace x3 := x3.below hF.below
            replace hb := bto hb hF.below
            clear hF
            obtain ⟨f0, f1, f2, f3, f4, f5, f6, f7, f8, f9, f10, f11, f12, f13, f14⟩ := x1.all
            go_wp2
            go_ret
            exact ⟨reti HV.out.symm, hb⟩
          · have bh5 : decide (5 < x.count) = false := decide_eq_false h5
            by_cases h6 : x.other = []
            · have bh6 : (x.other == []) = true := by rw [beq_iff_eq]; exact h6
              have eh6 : (x.other).isEmpty = true := by rw [List.isEmpty_iff]; exact h6
              by_cases h7 : sg x.sn = 0
              · have bh7 : (sg x.sn == 0) = true := by rw [beq_iff_eq]; exact h7
                have nh7 := bneq bh7
                have HV : Hid (bondE x = 0) := by show _ = _; unfold bondE; rw [if_neg (fun h => h.elim h1 (fun h => h.elim h2 (fun h => h.elim (fun h => h h3) (fun h => h.elim h4 h5)))), if_neg (fun h => h.elim (fun h => h h6) (fun h => h h7))]
                clear h3 h6 h7
                go_enter Tryz.func192, Tryz.ntmps192
                go_wp2_with fail
                refine wp_region_kept (by kernel_rfl) (by kernel_rfl) ?_
                refine kept_val _ (fun _ => rfl) (fun ρ w hw => by go_simp; first | done | with_reducible rfl) ?_
                simp only [Act.put, StT, StZ, StS, Nat.reduceAdd]
                refine kept_val _ (fun _ => rfl) (fun ρ w hw => by have q6 := (x1.below hw).c6; have q7 := (x1.below hw).c7; go_simp; first | done | with_reducible rfl) ?_
                simp only [Act.put, StT, StZ, StS, Nat.reduceAdd]
                refine kept_call _ _ _ (fun _ => rfl) (fun ρ w hw => by go_simp; first | done | with_reducible rfl) (fun w hw => C1.out.of hG (bto hb hw)) ?_
                iterate 3
                  simp only [Act.put, StT, StZ, StS, Nat.reduceAdd]
                  refine kept_val _ (fun _ => rfl) (fun ρ w hw => by go_simp; first | done | with_reducible rfl) ?_
                simp only [Act.put, StT, StZ, StS, Nat.reduceAdd]
                refine kept_val _ (fun _ => rfl) (fun ρ w hw => by have q8 := (x1.below hw).c8; have q9 := (x1.below hw).c9; go_simp; first | done | with_reducible rfl) ?_
                simp only [Act.put, StT, StZ, StS, Nat.reduceAdd]
                refine kept_call _ _ _ (fun _ => rfl) (fun ρ w hw => by go_simp; first | done | with_reducible rfl) (fun w hw => C2.out.of hG (bto hb hw)) ?_
                iterate 5
                  simp only [Act.put, StT, StZ, StS, Nat.reduceAdd]
                  refine kept_val _ (fun _ => rfl) (fun ρ w hw => by go_simp; first | done | with_reducible rfl) ?_
                simp only [Act.put, StT, StZ, StS, Nat.reduceAdd]
                refine kept_val _ (fun _ => rfl) (fun ρ w hw => by have q10 := (x1.below hw).c10; go_simp; first | done | with_reducible rfl) ?_
                simp only [Act.put, StT, StZ, StS, Nat.reduceAdd]
                refine kept_call _ _ _ (fun _ => rfl) (fun ρ w hw => by go_simp; first | done | with_reducible rfl) (fun w hw => iContains x.months _ _ (x3.below hw)) ?_
                iterate 4
                  simp only [Act.put, StT, StZ, StS, Nat.reduceAdd]
                  refine kept_val _ (fun _ => rfl) (fun ρ w hw => by go_simp; first | done | with_reducible rfl) ?_
                simp only [Act.put, StT, StZ, StS, Nat.reduceAdd]
                refine kept_val _ (fun _ => rfl) (fun ρ w hw => by have q11 := (x1.below hw).c11; go_simp; first | done | with_reducible rfl) ?_
                iterate 4
                  simp only [Act.put, StT, StZ, StS, Nat.reduceAdd]
                  refine kept_val _ (fun _ => rfl) (fun ρ w hw => by go_simp; first | done | with_reducible rfl) ?_
                simp only [Act.put, StT, StZ, StS, Nat.reduceAdd]
                refine kept_val _ (fun _ => rfl) (fun ρ w hw => by have q11 := (x1.below hw).c11; go_simp; first | done | with_reducible rfl) ?_
                iterate 3
                  simp only [Act.put, StT, StZ, StS, Nat.reduceAdd]
                  refine kept_val _ (fun _ => rfl) (fun ρ w hw => by go_simp; first | done | with_reducible rfl) ?_
                simp only [Act.put, StT, StZ, StS, Nat.reduceAdd]
                refine kept_end (fun ρ w2 hF => ?_)
                replace x1 := x1.below hF.below
                replace x3 := x3.below hF.below
                replace hb := bto hb hF.below
                clear hF
                obtain ⟨f0, f1, f2, f3, f4, f5, f6, f7, f8, f9, f10, f11, f12, f13, f14⟩ := x1.all
                go_wp2_with fail
                ((with_reducible refine (C3.out.of hG hb).mono ?_); rintro e w3 ⟨rfl, hb3⟩)
                clear f0 f1 f2 f3 f4 f5 f6 f7 f8 f9 f10 f11 f12 f13 f14
                replace x1 := x1.below hb3
                replace x3 := x3.below hb3
                replace hb := bto hb hb3
                clear hb3
                obtain ⟨f0, f1, f2, f3, f4, f5, f6, f7, f8, f9, f10, f11, f12, f13, f14⟩ := x1.all
                go_wp2
                go_ret
                exact ⟨reti HV.out.symm, hb⟩
              · have bh7 : (sg x.sn == 0) = false := by rw [beq_eq_false_iff_ne]; exact h7
                have nh7 := bneq' bh7
                have HV : Hid (bondE x = 1) := by show _ = _; unfold bondE; rw [if_neg (fun h => h.elim h1 (fun h => h.elim h2 (fun h => h.elim (fun h => h h3) (fun h => h.elim h4 h5)))), if_pos (.inr h7)]
                clear h3 h6 h7
                go_enter Tryz.func192, Tryz.ntmps192
                go_wp2_with fail
                refine wp_region_kept (by kernel_rfl) (by kernel_rfl) ?_
                refine kept_val _ (fun _ => rfl) (fun ρ w hw => by go_simp; first | done | with_reducible rfl) ?_
                simp only [Act.put, StT, StZ, StS, Nat.reduceAdd]
                refine kept_val _ (fun _ => rfl) (fun ρ w hw => by have q6 := (x1.below hw).c6; have q7 := (x1.below hw).c7; go_simp; first | done | with_reducible rfl) ?_
                simp only [Act.put, StT, StZ, StS, Nat.reduceAdd]
                refine kept_call _ _ _ (fun _ => rfl) (fun ρ w hw => by go_simp; first | done | with_reducible rfl) (fun w hw => C1.out.of hG (bto hb hw)) ?_
                iterate 3
                  simp only [Act.put, StT, StZ, StS, Nat.reduceAdd]
                  refine kept_val _ (fun _ => rfl) (fun ρ w hw => by go_simp; first | done | with_reducible rfl) ?_
                simp only [Act.put, StT, StZ, StS, Nat.reduceAdd]
                refine kept_val _ (fun _ => rfl) (fun ρ w hw => by have q8 := (x1.below hw).c8; have q9 := (x1.below hw).c9; go_simp; first | done | with_reducible rfl) ?_
                simp only [Act.put, StT, StZ, StS, Nat.reduceAdd]
                refine kept_call _ _ _ (fun _ => rfl) (fun ρ w hw => by go_simp; first | done | with_reducible rfl) (fun w hw => C2.out.of hG (bto hb hw)) ?_
                iterate 5
                  simp only [Act.put, StT, StZ, StS, Nat.reduceAdd]
                  refine kept_val _ (fun _ => rfl) (fun ρ w hw => by go_simp; first | done | with_reducible rfl) ?_
                simp only [Act.put, StT, StZ, StS, Nat.reduceAdd]
                refine kept_val _ (fun _ => rfl) (fun ρ w hw => by have q10 := (x1.below hw).c10; go_simp; first | done | with_reducible rfl) ?_
                simp only [Act.put, StT, StZ, StS, Nat.reduceAdd]
                refine kept_call _ _ _ (fun _ => rfl) (fun ρ w hw => by go_simp; first | done | with_reducible rfl) (fun w hw => iContains x.months _ _ (x3.below hw)) ?_
                iterate 4
                  simp only [Act.put, StT, StZ, StS, Nat.reduceAdd]
                  refine kept_val _ (fun _ => rfl) (fun ρ w hw => by go_simp; first | done | with_reducible rfl) ?_
                simp only [Act.put, StT, StZ, StS, Nat.reduceAdd]
                refine kept_val _ (fun _ => rfl) (fun ρ w hw => by have q11 := (x1.below hw).c11; go_simp; first | done | with_reducible rfl) ?_
                iterate 4
                  simp only [Act.put, StT, StZ, StS, Nat.reduceAdd]
                  refine kept_val _ (fun _ => rfl) (fun ρ w hw => by go_simp; first | done | with_reducible rfl) ?_
                simp only [Act.put, StT, StZ, StS, Nat.reduceAdd]
                refine kept_val _ (fun _ => rfl) (fun ρ w hw => by have q11 := (x1.below hw).c11; go_simp; first | done | with_reducible rfl) ?_
                iterate 3
                  simp only [Act.put, StT, StZ, StS, Nat.reduceAdd]
                  refine kept_val _ (fun _ => rfl) (fun ρ w hw => by go_simp; first | done | with_reducible rfl) ?_
                simp only [Act.put, StT, StZ, StS, Nat.reduceAdd]
                refine kept_end (fun ρ w2 hF => ?_)
                replace x1 := x1.below hF.below
                replace x3 := x3.below hF.below
                replace hb := bto hb hF.below
                clear hF
                obtain ⟨f0, f1, f2, f3, f4, f5, f6, f7, f8, f9, f10, f11, f12, f13, f14⟩ := x1.all
                go_wp2_with fail
                ((with_reducible refine (C3.out.of hG hb).mono ?_); rintro e w3 ⟨rfl, hb3⟩)
                clear f0 f1 f2 f3 f4 f5 f6 f7 f8 f9 f10 f11 f12 f13 f14
                replace x1 := x1.below hb3
                replace x3 := x3.below hb3
                replace hb := bto hb hb3
                clear hb3
                obtain ⟨f0, f1, f2, f3, f4, f5, f6, f7, f8, f9, f10, f11, f12, f13, f14⟩ := x1.all
                go_wp2
                go_ret
                exact ⟨reti HV.out.symm, hb⟩
            · have bh6 : (x.other == []) = false := by rw [beq_eq_false_iff_ne]; exact h6
              have eh6 : (x.other).isEmpty = false := by rw [List.isEmpty_eq_false_iff]; exact h6
              have HV : Hid (bondE x = 1) := by show _ = _; unfold bondE; rw [if_neg (fun h => h.elim h1 (fun h => h.elim h2 (fun h => h.elim (fun h => h h3) (fun h => h.elim h4 h5)))), if_pos (.inl h6)]
              clear h3 h6
              go_enter Tryz.func192, Tryz.ntmps192
              go_wp2_with fail
              refine wp_region_kept (by kernel_rfl) (by kernel_rfl) ?_
              refine kept_val _ (fun _ => rfl) (fun ρ w hw => by go_simp; first | done | with_reducible rfl) ?_
              simp only [Act.put, StT, StZ, StS, Nat.reduceAdd]
              refine kept_val _ (fun _ => rfl) (fun ρ w hw => by have q6 := (x1.below hw).c6; have q7 := (x1.below hw).c7; go_simp; first | done | with_reducible rfl) ?_
              simp only [Act.put, StT, StZ, StS, Nat.reduceAdd]
              refine kept_call _ _ _ (fun _ => rfl) (fun ρ w hw => by go_simp; first | done | with_reducible rfl) (fun w hw => C1.out.of hG (bto hb hw)) ?_
              iterate 3
                simp only [Act.put, StT, StZ, StS, Nat.reduceAdd]
                refine kept_val _ (fun _ => rfl) (fun ρ w hw => by go_simp; first | done | with_reducible rfl) ?_
              simp only [Act.put, StT, StZ, StS, Nat.reduceAdd]
              refine kept_val _ (fun _ => rfl) (fun ρ w hw => by have q8 := (x1.below hw).c8; have q9 := (x1.below hw).c9; go_simp; first | done | with_reducible rfl) ?_
              simp only [Act.put, StT, StZ, StS, Nat.reduceAdd]
              refine kept_call _ _ _ (fun _ => rfl) (fun ρ w hw => by go_simp; first | done | with_reducible rfl) (fun w hw => C2.out.of hG (bto hb hw)) ?_
              iterate 5
                simp only [Act.put, StT, StZ, StS, Nat.reduceAdd]
                refine kept_val _ (fun _ => rfl) (fun ρ w hw => by go_simp; first | done | with_reducible rfl) ?_
              simp only [Act.put, StT, StZ, StS, Nat.reduceAdd]
              refine kept_val _ (fun _ => rfl) (fun ρ w hw => by have q10 := (x1.below hw).c10; go_simp; first | done | with_reducible rfl) ?_
              simp only [Act.put, StT, StZ, StS, Nat.reduceAdd]
              refine kept_call _ _ _ (fun _ => rfl) (fun ρ w hw => by go_simp; first | done | with_reducible rfl) (fun w hw => iContains x.months _ _ (x3.below hw)) ?_
              iterate 4
                simp only [Act.put, StT, StZ, StS, Nat.reduceAdd]
                refine kept_val _ (fun _ => rfl) (fun ρ w hw => by go_simp; first | done | with_reducible rfl) ?_
              simp only [Act.put, StT, StZ, StS, Nat.reduceAdd]
              refine kept_val _ (fun _ => rfl) (fun ρ w hw => by have q11 := (x1.below hw).c11; go_simp; first | done | with_reducible rfl) ?_
              iterate 4
                simp only [Act.put, StT, StZ, StS, Nat.reduceAdd]
                refine kept_val _ (fun _ => rfl) (fun ρ w hw => by go_simp; first | done | with_reducible rfl) ?_
              simp only [Act.put, StT, StZ, StS, Nat.reduceAdd]
              refine kept_val _ (fun _ => rfl) (fun ρ w hw => by have q11 := (x1.below hw).c11; go_simp; first | done | with_reducible rfl) ?_
              iterate 3
                simp only [Act.put, StT, StZ, StS, Nat.reduceAdd]
                refine kept_val _ (fun _ => rfl) (fun ρ w hw => by go_simp; first | done | with_reducible rfl) ?_
              simp only [Act.put, StT, StZ, StS, Nat.reduceAdd]
              refine kept_end (fun ρ w2 hF => ?_)
              replace x1 := x1.below hF.below
              replace x3 := x3.below hF.below
              replace hb := bto hb hF.below
              clear hF
              obtain ⟨f0, f1, f2, f3, f4, f5, f6, f7, f8, f9, f10, f11, f12, f13, f14⟩ := x1.all
              go_wp2
              go_ret
              exact ⟨reti HV.out.symm, hb⟩
      · have bh3 : monthsB x.months = false := not_true_b h3
        have HV : Hid (bondE x = 2) := by show _ = _; unfold bondE; rw [if_pos (.inr (.inr (.inl h3)))]
        clear h3
        go_enter Tryz.func192, Tryz.ntmps192
        go_wp2_with fail
        refine wp_region_kept (by kernel_rfl) (by kernel_rfl) ?_
        refine kept_val _ (fun _ => rfl) (fun ρ w hw => by go_simp; first | done | with_reducible rfl) ?_
        simp only [Act.put, StT, StZ, StS, Nat.reduceAdd]
        refine kept_val _ (fun _ => rfl) (fun ρ w hw => by have q6 := (x1.below hw).c6; have q7 := (x1.below hw).c7; go_simp; first | done | with_reducible rfl) ?_
        simp only [Act.put, StT, StZ, StS, Nat.reduceAdd]
        refine kept_call _ _ _ (fun _ => rfl) (fun ρ w hw => by go_simp; first | done | with_reducible rfl) (fun w hw => C1.out.of hG (bto hb hw)) ?_
        iterate 3
          simp only [Act.put, StT, StZ, StS, Nat.reduceAdd]
          refine kept_val _ (fun _ => rfl) (fun ρ w hw => by go_simp; first | done | with_reducible rfl) ?_
        simp only [Act.put, StT, StZ, StS, Nat.reduceAdd]
        refine kept_val _ (fun _ => rfl) (fun ρ w hw => by have q8 := (x1.below hw).c8; have q9 := (x1.below hw).c9; go_simp; first | done | with_reducible rfl) ?_
        simp only [Act.put, StT, StZ, StS, Nat.reduceAdd]
        refine kept_call _ _ _ (fun _ => rfl) (fun ρ w hw => by go_simp; first | done | with_reducible rfl) (fun w hw => C2.out.of hG (bto hb hw)) ?_
        iterate 5
          simp only [Act.put, StT, StZ, StS, Nat.reduceAdd]
          refine kept_val _ (fun _ => rfl) (fun ρ w hw => by go_simp; first | done | with_reducible rfl) ?_
        simp only [Act.put, StT, StZ, StS, Nat.reduceAdd]
        refine kept_val _ (fun _ => rfl) (fun ρ w hw => by have q10 := (x1.below hw).c10; go_simp; first | done | with_reducible rfl) ?_
        simp only [Act.put, StT, StZ, StS, Nat.reduceAdd]
        refine kept_call _ _ _ (fun _ => rfl) (fun ρ w hw => by go_simp; first | done | with_reducible rfl) (fun w hw => iContains x.months _ _ (x3.below hw)) ?_
        iterate 3
          simp only [Act.put, StT, StZ, StS, Nat.reduceAdd]
          refine kept_val _ (fun _ => rfl) (fun ρ w hw => by go_simp; first | done | with_reducible rfl) ?_
        iterate 3
          simp only [Act.put, StT, StZ, StS, Nat.reduceAdd]
          refine kept_off (fun _ => rfl) ?_
        iterate 2
          simp only [Act.put, StT, StZ, StS, Nat.reduceAdd]
          refine kept_val _ (fun _ => rfl) (fun ρ w hw => by go_simp; first | done | with_reducible rfl) ?_
        iterate 3
          simp only [Act.put, StT, StZ, StS, Nat.reduceAdd]
          refine kept_off (fun _ => rfl) ?_
        iterate 2
          simp only [Act.put, StT, StZ, StS, Nat.reduceAdd]
          refine kept_val _ (fun _ => rfl) (fun ρ w hw => by go_simp; first | done | with_reducible rfl) ?_
        simp only [Act.put, StT, StZ, StS, Nat.reduceAdd]
        refine kept_end (fun ρ w2 hF => ?_)
        replace x1 := x1.below hF.below
        replace x3 := x3.below hF.below
        replace hb := bto hb hF.below
        clear hF
        obtain ⟨f0, f1, f2, f3, f4, f5, f6, f7, f8, f9, f10, f11, f12, f13, f14⟩ := x1.all
        go_wp2
        go_ret
        exact ⟨reti HV.out.symm, hb⟩
end Go.Proofs.YtgnppdkeiihlfaaGreatDoor
namespace Go.Proofs.YtgnppdkeiihlfaaGreatDoor
open Go.RowKit Num
def endsB (x : Ins) : Bool := decide (x.kind = 2) || decide (x.kind = 5)
def matB (x : Ins) : Bool := (decide (x.matures ≠ 0) && (!dayB x.matures || decide (x.matures ≤ x.issued))) || (decide (x.matures = 0) && endsB x)
theorem mat_0 {x : Ins} (h : x.matures = 0) : matB x = endsB x := by unfold matB; rw [decide_eq_true h, decide_eq_false (by simpa using h)]; simp
theorem mat_1 {x : Ins} (h : ¬ x.matures = 0) (h1 : dayB x.matures = false) : matB x = true := by unfold matB; rw [decide_eq_true h, h1]; simp
theorem mat_2 {x : Ins} (h : ¬ x.matures = 0) (h1 : x.matures ≤ x.issued) : matB x = true := by unfold matB; rw [decide_eq_true h, decide_eq_true h1]; simp
theorem mat_3 {x : Ins} (h : ¬ x.matures = 0) (h1 : dayB x.matures = true) (h2 : ¬ x.matures ≤ x.issued) : matB x = false := by unfold matB; rw [decide_eq_true h, decide_eq_false h2, decide_eq_false h, h1]; rfl
def ownE (x : Ins) : Int := if x.kind = 2 then bondE x else if x.kind = 5 then fwdE x else plainE x
def numsE (x : Ins) : Int := if numE x.fn x.fd ≠ 0 then numE x.fn x.fd else if numE x.cn x.cd ≠ 0 then numE x.cn x.cd else numE x.sn x.sd
def tailE (x : Ins) : Int := if matB x = true then 13 else if numsE x ≠ 0 then numsE x else ownE x
def chkE (x : Ins) : Int := if ¬ nameB x.id = true then 23 else if x.kind < 1 ∨ 5 < x.kind then 7 else if ¬ codeB x.cur = true then 12 else if x.places < 0 ∨ 12 < x.places then 2 else if ¬ dayB x.issued = true then 13 else tailE x
theorem rule1 (w : World) : (Instr.index 146 rulesV (.int .i64 1)).run Tryz.prog w = .ok (.agg #[.bool false, .func (Fn.func 191) #[] #[]]) w := by kernel_rfl
theorem rule2 (w : World) : (Instr.index 146 rulesV (.int .i64 2)).run Tryz.prog w = .ok (.agg #[.bool true, .func (Fn.func 192) #[] #[]]) w := by kernel_rfl
theorem rule3 (w : World) : (Instr.index 146 rulesV (.int .i64 3)).run Tryz.prog w = .ok (.agg #[.bool false, .func (Fn.func 191) #[] #[]]) w := by kernel_rfl
theorem rule4 (w : World) : (Instr.index 146 rulesV (.int .i64 4)).run Tryz.prog w = .ok (.agg #[.bool false, .func (Fn.func 191) #[] #[]]) w := by kernel_rfl
theorem rule5 (w : World) : (Instr.index 146 rulesV (.int .i64 5)).run Tryz.prog w = .ok (.agg #[.bool true, .func (Fn.func 193) #[] #[]]) w := by kernel_rfl
theorem call_plain (args : Array Value) (w : World) : (callFunc 191 args).run Tryz.prog w = .ok (.enter 191 args) w := by kernel_rfl
theorem call_bond (args : Array Value) (w : World) : (callFunc 192 args).run Tryz.prog w = .ok (.enter 192 args) w := by kernel_rfl
theorem call_forward (args : Array Value) (w : World) : (callFunc 193 args).run Tryz.prog w = .ok (.enter 193 args) w := by kernel_rfl
set_option maxRecDepth 100000 in
theorem own_rule (x : Ins) (hx : x.Small) (h1 : ¬ x.kind < 1) (h2 : ¬ 5 < x.kind) : ∃ (ends : Bool) (f : Nat), (∀ w, (Instr.index 146 rulesV (.int .i64 x.kind)).run Tryz.prog w = .ok (.agg #[.bool ends, .func (Fn.func f) #[] #[]]) w) ∧ ends = endsB x ∧ Ret f #[(Value.agg #[Value.string ⟨List.toArray x.id⟩, Value.int .i64 x.kind, Value.string ⟨List.toArray x.cur⟩, Value.int .i64 x.places, Value.int .i64 x.issued, Value.int .i64 x.matures, Value.string ⟨List.toArray x.fn⟩, Value.string ⟨List.toArray x.fd⟩, Value.string ⟨List.toArray x.cn⟩, Value.string ⟨List.toArray x.cd⟩, Value.int .i64 x.months, Value.int .i64 x.count, Value.string ⟨List.toArray x.other⟩, Value.string ⟨List.toArray x.sn⟩, Value.string ⟨List.toArray x.sd⟩])] (.int .i64 (ownE x)) ∧ ∀ (args : Array Value) w, (callFunc f args).run Tryz.prog w = .ok (.enter f args) w := by
  have hp := iPlain x hx
  have hb := iBond x hx
  have hf := iFwd x hx
  have hk : x.kind = 1 ∨ x.kind = 2 ∨ x.kind = 3 ∨ x.kind = 4 ∨ x.kind = 5 := by omega
  unfold ownE endsB
  rcases hk with h | h | h | h | h
  · exact ⟨false, 191, fun w => by rw [h]; exact rule1 w, by rw [h]; rfl, by rw [if_neg (by omega), if_neg (by omega)]; exact hp, call_plain⟩
  · exact ⟨true, 192, fun w => by rw [h]; exact rule2 w, by rw [h]; rfl, by rw [if_pos h]; exact hb, call_bond⟩
  · exact ⟨false, 191, fun w => by rw [h]; exact rule3 w, by rw [h]; rfl, by rw [if_neg (by omega), if_neg (by omega)]; exact hp, call_plain⟩
  · exact ⟨false, 191, fun w => by rw [h]; exact rule4 w, by rw [h]; rfl, by rw [if_neg (by omega), if_neg (by omega)]; exact hp, call_plain⟩
  · exact ⟨true, 193, fun w => by rw [h]; exact rule5 w, by rw [h]; rfl, by rw [if_neg (by omega), if_pos h]; exact hf, call_forward⟩
theorem nums_0 {x : Ins} (h : ¬ numE x.fn x.fd = 0) : numsE x = numE x.fn x.fd := by unfold numsE; rw [if_pos h]
theorem nums_1 {x : Ins} (h0 : numE x.fn x.fd = 0) (h : ¬ numE x.cn x.cd = 0) : numsE x = numE x.cn x.cd := by unfold numsE; rw [if_neg (fun g => g h0), if_pos h]
theorem nums_2 {x : Ins} (h0 : numE x.fn x.fd = 0) (h : numE x.cn x.cd = 0) : numsE x = numE x.sn x.sd := by unfold numsE; rw [if_neg (fun g => g h0), if_neg (fun g => g h)]
set_option maxHeartbeats 4000000 in
set_option maxRecDepth 100000 in
theorem iCheck (x : Ins) (hx : x.Small) : Ret 64 #[(Value.agg #[Value.string ⟨List.toArray x.id⟩, Value.int .i64 x.kind, Value.string ⟨List.toArray x.cur⟩, Value.int .i64 x.places, Value.int .i64 x.issued, Value.int .i64 x.matures, Value.string ⟨List.toArray x.fn⟩, Value.string ⟨List.toArray x.fd⟩, Value.string ⟨List.toArray x.cn⟩, Value.string ⟨List.toArray x.cd⟩, Value.int .i64 x.months, Value.int .i64 x.count, Value.string ⟨List.toArray x.other⟩, Value.string ⟨List.toArray x.sn⟩, Value.string ⟨List.toArray x.sd⟩])] (.int .i64 (chkE x)) := fun w hG => by
  have C1 := Lib.hid (iName (l := x.id) (Nat.le_trans hx.id (by decide)))
  have C2 := Lib.hid (iCode (l := x.cur) (Nat.le_trans hx.cur (by decide)))
  have C3 := Lib.hid (iValid x.issued)
  have x1 := IBox.new w x 27
  have hb := below_alloc w (.cells #[Value.string ⟨List.toArray x.id⟩, Value.int .i64 x.kind, Value.string ⟨List.toArray x.cur⟩, Value.int .i64 x.places, Value.int .i64 x.issued, Value.int .i64 x.matures, Value.string ⟨List.toArray x.fn⟩, Value.string ⟨List.toArray x.fd⟩, Value.string ⟨List.toArray x.cn⟩, Value.string ⟨List.toArray x.cd⟩, Value.int .i64 x.months, Value.int .i64 x.count, Value.string ⟨List.toArray x.other⟩, Value.string ⟨List.toArray x.sn⟩, Value.string ⟨List.toArray x.sd⟩] 27)
  by_cases h1 : nameB x.id = true
  · have bh1 := h1
    by_cases h2 : x.kind < 1
    · have bh2 : decide (x.kind < 1) = true := decide_eq_true h2
      have HV : Hid (chkE x = 7) := by show _ = _; unfold chkE; rw [if_neg (fun h => h h1), if_pos (.inl h2)]
      clear h1
      go_enter Tryz.func64, Tryz.ntmps64
      obtain ⟨f0, f1, f2, f3, f4, f5, f6, f7, f8, f9, f10, f11, f12, f13, f14⟩ := x1.all
      go_wp2_with fail
      ((with_reducible refine (C1.out.of hG hb).mono ?_); rintro e w2 ⟨rfl, hb2⟩)
      clear f0 f1 f2 f3 f4 f5 f6 f7 f8 f9 f10 f11 f12 f13 f14
      replace x1 := x1.below hb2
      replace hb := bto hb hb2
      clear hb2
      obtain ⟨f0, f1, f2, f3, f4, f5, f6, f7, f8, f9, f10, f11, f12, f13, f14⟩ := x1.all
      go_wp2
      go_ret
      exact ⟨reti HV.out.symm, hb⟩
    · have bh2 : decide (x.kind < 1) = false := decide_eq_false h2
      by_cases h3 : 5 < x.kind
      · have bh3 : decide (5 < x.kind) = true := decide_eq_true h3
        have HV : Hid (chkE x = 7) := by show _ = _; unfold chkE; rw [if_neg (fun h => h h1), if_pos (.inr h3)]
        clear h1
        go_enter Tryz.func64, Tryz.ntmps64
        obtain ⟨f0, f1, f2, f3, f4, f5, f6, f7, f8, f9, f10, f11, f12, f13, f14⟩ := x1.all
        go_wp2_with fail
        ((with_reducible refine (C1.out.of hG hb).mono ?_); rintro e w2 ⟨rfl, hb2⟩)
        clear f0 f1 f2 f3 f4 f5 f6 f7 f8 f9 f10 f11 f12 f13 f14
        replace x1 := x1.below hb2
        replace hb := bto hb hb2
        clear hb2
        obtain ⟨f0, f1, f2, f3, f4, f5, f6, f7, f8, f9, f10, f11, f12, f13, f14⟩ := x1.all
        go_wp2
        go_ret
        exact ⟨reti HV.out.symm, hb⟩
      · have bh3 : decide (5 < x.kind) = false := decide_eq_false h3
        by_cases h4 : codeB x.cur = true
        · have bh4 := h4
          by_cases h5 : x.places < 0
          · have bh5 : decide (x.places < 0) = true := decide_eq_true h5
            have HV : Hid (chkE x = 2) := by show _ = _; unfold chkE; rw [if_neg (fun h => h h1), if_neg (fun h => h.elim h2 h3), if_neg (fun h => h h4), if_pos (.inl h5)]
            clear h1 h4
            go_enter Tryz.func64, Tryz.ntmps64
            obtain ⟨f0, f1, f2, f3, f4, f5, f6, f7, f8, f9, f10, f11, f12, f13, f14⟩ := x1.all
            go_wp2_with fail
            ((with_reducible refine (C1.out.of hG hb).mono ?_); rintro e w2 ⟨rfl, hb2⟩)
            clear f0 f1 f2 f3 f4 f5 f6 f7 f8 f9 f10 f11 f12 f13 f14
            replace x1 := x1.below hb2
            replace hb := bto hb hb2
            clear hb2
            obtain ⟨f0, f1, f2, f3, f4, f5, f6, f7, f8, f9, f10, f11, f12, f13, f14⟩ := x1.all
            go_wp2_with fail
            ((with_reducible refine (C2.out.of hG hb).mono ?_); rintro e w3 ⟨rfl, hb3⟩)
            clear f0 f1 f2 f3 f4 f5 f6 f7 f8 f9 f10 f11 f12 f13 f14
            replace x1 := x1.below hb3
            replace hb := bto hb hb3
            clear hb3
            obtain ⟨f0, f1, f2, f3, f4, f5, f6, f7, f8, f9, f10, f11, f12, f13, f14⟩ := x1.all
            go_wp2
            go_ret
            exact ⟨reti HV.out.symm, hb⟩
          · have bh5 : decide (x.places < 0) = false := decide_eq_false h5
            by_cases h6 : 12 < x.places
            · have bh6 : decide (12 < x.places) = true := decide_eq_true h6
              have HV : Hid (chkE x = 2) := by show _ = _; unfold chkE; rw [if_neg (fun h => h h1), if_neg (fun h => h.elim h2 h3), if_neg (fun h => h h4), if_pos (.inr h6)]
              clear h1 h4
              go_enter Tryz.func64, Tryz.ntmps64
              obtain ⟨f0, f1, f2, f3, f4, f5, f6, f7, f8, f9, f10, f11, f12, f13, f14⟩ := x1.all
              go_wp2_with fail
              ((with_reducible refine (C1.out.of hG hb).mono ?_); rintro e w2 ⟨rfl, hb2⟩)
              clear f0 f1 f2 f3 f4 f5 f6 f7 f8 f9 f10 f11 f12 f13 f14
              replace x1 := x1.below hb2
              replace hb := bto hb hb2
              clear hb2
              obtain ⟨f0, f1, f2, f3, f4, f5, f6, f7, f8, f9, f10, f11, f12, f13, f14⟩ := x1.all
              go_wp2_with fail
              ((with_reducible refine (C2.out.of hG hb).mono ?_); rintro e w3 ⟨rfl, hb3⟩)
              clear f0 f1 f2 f3 f4 f5 f6 f7 f8 f9 f10 f11 f12 f13 f14
              replace x1 := x1.below hb3
              replace hb := bto hb hb3
              clear hb3
              obtain ⟨f0, f1, f2, f3, f4, f5, f6, f7, f8, f9, f10, f11, f12, f13, f14⟩ := x1.all
              go_wp2
              go_ret
              exact ⟨reti HV.out.symm, hb⟩
            · have bh6 : decide (12 < x.places) = false := decide_eq_false h6
              by_cases h7 : dayB x.issued = true
              · have bh7 := h7
                have HV : Hid (chkE x = tailE x) := by show _ = _; unfold chkE; rw [if_neg (fun h => h h1), if_neg (fun h => h.elim h2 h3), if_neg (fun h => h h4), if_neg (fun h => h.elim h5 h6), if_neg (fun h => h h7)]
                obtain ⟨ends, f, hidx, hends, cown, hcall⟩ := own_rule x hx h2 h3
                have HE := Lib.hid hends
                have C4 := Lib.hid (iValid x.matures)
                have CO := Lib.hid cown
                have CR := Lib.hid iRules
                have N0 := Lib.hid (iNumber (l := x.fn) (l' := x.fd) (Nat.le_trans hx.fn (by decide)) (Nat.le_trans hx.fd (by decide)))
                have N1 := Lib.hid (iNumber (l := x.cn) (l' := x.cd) (Nat.le_trans hx.cn (by decide)) (Nat.le_trans hx.cd (by decide)))
                have N2 := Lib.hid (iNumber (l := x.sn) (l' := x.sd) (Nat.le_trans hx.sn (by decide)) (Nat.le_trans hx.sd (by decide)))
                clear h1 h4 h7 hends cown
                go_enter Tryz.func64, Tryz.ntmps64
                obtain ⟨f0, f1, f2, f3, f4, f5, f6, f7, f8, f9, f10, f11, f12, f13, f14⟩ := x1.all
                go_wp2_with fail
                ((with_reducible refine (C1.out.of hG hb).mono ?_); rintro e w2 ⟨rfl, hb2⟩)
                clear f0 f1 f2 f3 f4 f5 f6 f7 f8 f9 f10 f11 f12 f13 f14
                replace x1 := x1.below hb2
                replace hb := bto hb hb2
                clear hb2
                obtain ⟨f0, f1, f2, f3, f4, f5, f6, f7, f8, f9, f10, f11, f12, f13, f14⟩ := x1.all
                go_wp2_with fail
                ((with_reducible refine (C2.out.of hG hb).mono ?_); rintro e w3 ⟨rfl, hb3⟩)
                clear f0 f1 f2 f3 f4 f5 f6 f7 f8 f9 f10 f11 f12 f13 f14
                replace x1 := x1.below hb3
                replace hb := bto hb hb3
                clear hb3
                obtain ⟨f0, f1, f2, f3, f4, f5, f6, f7, f8, f9, f10, f11, f12, f13, f14⟩ := x1.all
                go_wp2_with fail
                ((with_reducible refine (C3.out.of hG hb).mono ?_); rintro e w4 ⟨rfl, hb4⟩)
                clear f0 f1 f2 f3 f4 f5 f6 f7 f8 f9 f10 f11 f12 f13 f14
                replace x1 := x1.below hb4
                replace hb := bto hb hb4
                clear hb4
                go_wp2_with fail
                refine wp_region_kept (by kernel_rfl) (by kernel_rfl) ?_
                refine kept_call _ _ _ (fun _ => rfl) (fun ρ w hw => by go_simp; first | done | with_reducible rfl) (fun w hw => CR.out.of hG (bto hb hw)) ?_
                simp only [Act.put, StT, StZ, StS, Nat.reduceAdd]
                refine kept_val _ (fun _ => rfl) (fun ρ w hw => by go_simp; first | done | with_reducible rfl) ?_
                simp only [Act.put, StT, StZ, StS, Nat.reduceAdd]
                refine kept_val _ (fun _ => rfl) (fun ρ w hw => by have q1 := (x1.below hw).c1; go_simp; first | done | with_reducible rfl) ?_
                simp only [Act.put, StT, StZ, StS, Nat.reduceAdd]
                refine kept_val _ (fun _ => rfl) (fun ρ w hw => by go_simp; first | done | with_reducible rfl) ?_
                simp only [Act.put, StT, StZ, StS, Nat.reduceAdd]
                refine kept_box (fun b => .pointer (some ⟨b, 0, none⟩)) _ rfl (fun _ => rfl) (fun ρ w hw => by go_simp; first | done | with_reducible rfl) ?_
                simp only [Act.put, StT, StZ, StS, Nat.reduceAdd]
                refine kept_put2 4 _ 3 _ _ _ _ _ rfl rfl rfl (by decide) (fun _ => rfl) (fun ρ w hw q0 q1 q2 q3 => by go_simp; first | done | with_reducible rfl) ?_
                simp only [Act.put, Nat.reduceAdd]
                refine kept_end (fun ρ w5 hF => ?_)
                replace x1 := x1.below hF.below
                replace hb := bto hb hF.below
                have x3 := FBox.ofB (hF.box 4 _ _ rfl).2
                generalize ρ 4 = b3 at *
                clear hF
                clear hidx CR
                go_upto_region 12 with fail
                go_cut [68] from 44 to 68 (fun s68 wx => s68 = .bool (matB x) ∧ Below w5.heap.size w5 wx)
                case first =>
                  by_cases m0 : x.matures = 0
                  · have e1 : (x.matures == 0) = true := by rw [beq_iff_eq]; exact m0
                    have e2 := bneq e1
                    have HM : Hid (matB x = ends) := by show _ = _; rw [mat_0 m0, HE.out]
                    clear m0
                    obtain ⟨f0, f1, f2, f3, f4, f5, f6, f7, f8, f9, f10, f11, f12, f13, f14⟩ := x1.all
                    have qx3_0 := x3.c0
                    have qx3_1 := x3.c1
                    go_wp2
                    go_meet
                    case rel => exact ⟨by rw [HM.out], Below.refl _ _⟩
                  · have e1 : (x.matures == 0) = false := by rw [beq_eq_false_iff_ne]; exact m0
                    have e2 := bneq' e1
                    have hG2 := hG.below hb
                    have hb2 := Below.refl w5.heap.size w5
                    by_cases m1 : dayB x.matures = true
                    · by_cases m2 : x.matures ≤ x.issued
                      · have e3 : decide (x.matures ≤ x.issued) = true := decide_eq_true m2
                        have HM : Hid (matB x = true) := mat_2 m0 m2
                        clear m0
                        obtain ⟨f0, f1, f2, f3, f4, f5, f6, f7, f8, f9, f10, f11, f12, f13, f14⟩ := x1.all
                        have qx3_0 := x3.c0
                        have qx3_1 := x3.c1
                        go_wp2_with fail
                        ((with_reducible refine (C4.out.of hG2 hb2).mono ?_); rintro e wv ⟨rfl, hbv⟩)
                        clear f0 f1 f2 f3 f4 f5 f6 f7 f8 f9 f10 f11 f12 f13 f14 qx3_0 qx3_1
                        replace x1 := x1.below hbv
                        replace x3 := x3.below hbv
                        obtain ⟨f0, f1, f2, f3, f4, f5, f6, f7, f8, f9, f10, f11, f12, f13, f14⟩ := x1.all
                        have qx3_0 := x3.c0
                        have qx3_1 := x3.c1
                        go_wp2
                        go_meet
                        case rel => exact ⟨by rw [HM.out], hbv⟩
                      · have e3 : decide (x.matures ≤ x.issued) = false := decide_eq_false m2
                        have HM : Hid (matB x = false) := mat_3 m0 m1 m2
                        clear m0
                        obtain ⟨f0, f1, f2, f3, f4, f5, f6, f7, f8, f9, f10, f11, f12, f13, f14⟩ := x1.all
                        have qx3_0 := x3.c0
                        have qx3_1 := x3.c1
                        go_wp2_with fail
                        ((with_reducible refine (C4.out.of hG2 hb2).mono ?_); rintro e wv ⟨rfl, hbv⟩)
                        clear f0 f1 f2 f3 f4 f5 f6 f7 f8 f9 f10 f11 f12 f13 f14 qx3_0 qx3_1
                        replace x1 := x1.below hbv
                        replace x3 := x3.below hbv
                        obtain ⟨f0, f1, f2, f3, f4, f5, f6, f7, f8, f9, f10, f11, f12, f13, f14⟩ := x1.all
                        have qx3_0 := x3.c0
                        have qx3_1 := x3.c1
                        go_wp2
                        go_meet
                        case rel => exact ⟨by rw [HM.out], hbv⟩
                    · have m1 := not_true_b m1
                      have HM : Hid (matB x = true) := mat_1 m0 m1
                      clear m0
                      obtain ⟨f0, f1, f2, f3, f4, f5, f6, f7, f8, f9, f10, f11, f12, f13, f14⟩ := x1.all
                      have qx3_0 := x3.c0
                      have qx3_1 := x3.c1
                      go_wp2_with fail
                      ((with_reducible refine (C4.out.of hG2 hb2).mono ?_); rintro e wv ⟨rfl, hbv⟩)
                      clear f0 f1 f2 f3 f4 f5 f6 f7 f8 f9 f10 f11 f12 f13 f14 qx3_0 qx3_1
                      replace x1 := x1.below hbv
                      replace x3 := x3.below hbv
                      obtain ⟨f0, f1, f2, f3, f4, f5, f6, f7, f8, f9, f10, f11, f12, f13, f14⟩ := x1.all
                      have qx3_0 := x3.c0
                      have qx3_1 := x3.c1
                      go_wp2
                      go_meet
                      case rel => exact ⟨by rw [HM.out], hbv⟩
                case rest =>
                  obtain ⟨rfl, hbc⟩ := hcut
                  replace x1 := x1.below hbc
                  replace x3 := x3.below hbc
                  replace hb := bto hb hbc
                  clear hbc C4 HE
                  obtain ⟨mb, hmb⟩ : ∃ b, matB x = b := ⟨_, rfl⟩
                  rw [hmb]
                  have HB := Lib.hid hmb
                  clear hmb
                  rcases Bool.eq_false_or_eq_true mb with hm | hm <;> subst hm
                  · have HT : Hid (tailE x = 13) := by show _ = _; unfold tailE; rw [if_pos HB.out]
                    clear HB N0 N1 N2 CO
                    go_wp2
                    go_ret
                    exact ⟨reti (HV.out.trans HT.out).symm, hb⟩
                  · have HT : Hid (tailE x = if numsE x ≠ 0 then numsE x else ownE x) := by show _ = _; unfold tailE; rw [if_neg (by rw [HB.out]; decide)]
                    clear HB
                    obtain ⟨f0, f1, f2, f3, f4, f5, f6, f7, f8, f9, f10, f11, f12, f13, f14⟩ := x1.all
                    go_wp2_with fail
                    clear f0 f1 f2 f3 f4 f5 f6 f7 f8 f9 f10 f11 f12 f13 f14
                    have hbA := below_alloc wc (.cells #[.string ⟨x.fn.toArray⟩, .string ⟨x.fd.toArray⟩, .string ⟨x.cn.toArray⟩, .string ⟨x.cd.toArray⟩, .string ⟨x.sn.toArray⟩, .string ⟨x.sd.toArray⟩] 25)
                    have xN := Blk.new wc #[.string ⟨x.fn.toArray⟩, .string ⟨x.fd.toArray⟩, .string ⟨x.cn.toArray⟩, .string ⟨x.cd.toArray⟩, .string ⟨x.sn.toArray⟩, .string ⟨x.sd.toArray⟩] 25
                    replace x1 := x1.below hbA
                    replace x3 := x3.below hbA
                    replace hb := bto hb hbA
                    clear hbA
                    go_loopw [77] (fun iv wr => ∃ k : Nat, k ≤ 3 ∧ iv = .int .i64 (k : Int) ∧ Hid ((1 ≤ k → numE x.fn x.fd = 0) ∧ (2 ≤ k → numE x.cn x.cd = 0) ∧ (3 ≤ k → numE x.sn x.sd = 0)) ∧ IBox wr w.heap.size x ∧ FBox wr b3 (.bool ends) (.func (Fn.func f) #[] #[]) ∧ Blk wr wc.heap.size #[.string ⟨x.fn.toArray⟩, .string ⟨x.fd.toArray⟩, .string ⟨x.cn.toArray⟩, .string ⟨x.cd.toArray⟩, .string ⟨x.sn.toArray⟩, .string ⟨x.sd.toArray⟩] ∧ Below w.heap.size w wr) (fun iv _ => 3 - (intOf iv).toNat)
                    case atStart => exact ⟨0, by omega, rfl, ⟨fun h => absurd h (by decide), fun h => absurd h (by decide), fun h => absurd h (by decide)⟩, x1, x3, xN, hb⟩
                    case round =>
                      obtain ⟨k, hk, rfl, HK, y1, y3, yN, hbr⟩ := hrel
                      have hk4 : k = 0 ∨ k = 1 ∨ k = 2 ∨ k = 3 := by omega
                      rcases hk4 with rfl | rfl | rfl | rfl
                      · have q0 : wr.cell? ⟨wc.heap.size, 0, none⟩ = some (.string ⟨x.fn.toArray⟩) := yN.c 0
                        have q1 : wr.cell? ⟨wc.heap.size, 1, none⟩ = some (.string ⟨x.fd.toArray⟩) := yN.c 1
                        have hbA := below_alloc wr (.cells #[.string ⟨x.fn.toArray⟩, .string ⟨x.fd.toArray⟩] 25)
                        go_wp2_with fail
                        ((with_reducible refine (N0.out.of hG (bto hbr hbA)).mono ?_); rintro e wn ⟨rfl, hbn⟩)
                        have hbn := bto hbA hbn
                        replace y1 := y1.below hbn
                        replace y3 := y3.below hbn
                        replace yN := yN.below hbn
                        replace hbr := bto hbr hbn
                        clear hbn hbA q0 q1
                        by_cases hz : numE x.fn x.fd = 0
                        · have HK2 : Hid ((1 ≤ 1 → numE x.fn x.fd = 0) ∧ (2 ≤ 1 → numE x.cn x.cd = 0) ∧ (3 ≤ 1 → numE x.sn x.sd = 0)) := ⟨fun _ => hz, fun h => absurd h (by decide), fun h => absurd h (by decide)⟩
                          have e1 : (numE x.fn x.fd == 0) = true := by rw [beq_iff_eq]; exact hz
                          have e2 := bneq e1
                          clear hz HK
                          go_wp2
                          go_roundw
                          case rel => exact ⟨1, by omega, by first | rfl | go_num, HK2, y1, y3, yN, hbr⟩
                          case measure => simp [intOf]
                        · have HQ : Hid (tailE x = numE x.fn x.fd) := by show _ = _; have hq := nums_0 hz; rw [HT.out, hq, if_pos hz]
                          have e1 : (numE x.fn x.fd == 0) = false := by rw [beq_eq_false_iff_ne]; exact hz
                          have e2 := bneq' e1
                          clear hz HK
                          go_wp2
                          go_ret
                          exact ⟨reti (HV.out.trans HQ.out).symm, hbr⟩
                      · have q0 : wr.cell? ⟨wc.heap.size, 2, none⟩ = some (.string ⟨x.cn.toArray⟩) := yN.c 2
                        have q1 : wr.cell? ⟨wc.heap.size, 3, none⟩ = some (.string ⟨x.cd.toArray⟩) := yN.c 3
                        have hbA := below_alloc wr (.cells #[.string ⟨x.cn.toArray⟩, .string ⟨x.cd.toArray⟩] 25)
                        go_wp2_with fail
                        ((with_reducible refine (N1.out.of hG (bto hbr hbA)).mono ?_); rintro e wn ⟨rfl, hbn⟩)
                        have hbn := bto hbA hbn
                        replace y1 := y1.below hbn
                        replace y3 := y3.below hbn
                        replace yN := yN.below hbn
                        replace hbr := bto hbr hbn
                        clear hbn hbA q0 q1
                        by_cases hz : numE x.cn x.cd = 0
                        · have HK2 : Hid ((1 ≤ 2 → numE x.fn x.fd = 0) ∧ (2 ≤ 2 → numE x.cn x.cd = 0) ∧ (3 ≤ 2 → numE x.sn x.sd = 0)) := ⟨fun _ => HK.out.1 (by decide), fun _ => hz, fun h => absurd h (by decide)⟩
                          have e1 : (numE x.cn x.cd == 0) = true := by rw [beq_iff_eq]; exact hz
                          have e2 := bneq e1
                          clear hz HK
                          go_wp2
                          go_roundw
                          case rel => exact ⟨2, by omega, by first | rfl | go_num, HK2, y1, y3, yN, hbr⟩
                          case measure => simp [intOf]
                        · have HQ : Hid (tailE x = numE x.cn x.cd) := by show _ = _; have hq := nums_1 (HK.out.1 (by decide)) hz; rw [HT.out, hq, if_pos hz]
                          have e1 : (numE x.cn x.cd == 0) = false := by rw [beq_eq_false_iff_ne]; exact hz
                          have e2 := bneq' e1
                          clear hz HK
                          go_wp2
                          go_ret
                          exact ⟨reti (HV.out.trans HQ.out).symm, hbr⟩
                      · have q0 : wr.cell? ⟨wc.heap.size, 4, none⟩ = some (.string ⟨x.sn.toArray⟩) := yN.c 4
                        have q1 : wr.cell? ⟨wc.heap.size, 5, none⟩ = some (.string ⟨x.sd.toArray⟩) := yN.c 5
                        have hbA := below_alloc wr (.cells #[.string ⟨x.sn.toArray⟩, .string ⟨x.sd.toArray⟩] 25)
                        go_wp2_with fail
                        ((with_reducible refine (N2.out.of hG (bto hbr hbA)).mono ?_); rintro e wn ⟨rfl, hbn⟩)
                        have hbn := bto hbA hbn
                        replace y1 := y1.below hbn
                        replace y3 := y3.below hbn
                        replace yN := yN.below hbn
                        replace hbr := bto hbr hbn
                        clear hbn hbA q0 q1
                        by_cases hz : numE x.sn x.sd = 0
                        · have HK2 : Hid ((1 ≤ 3 → numE x.fn x.fd = 0) ∧ (2 ≤ 3 → numE x.cn x.cd = 0) ∧ (3 ≤ 3 → numE x.sn x.sd = 0)) := ⟨fun _ => HK.out.1 (by decide), fun _ => HK.out.2.1 (by decide), fun _ => hz⟩
                          have e1 : (numE x.sn x.sd == 0) = true := by rw [beq_iff_eq]; exact hz
                          have e2 := bneq e1
                          clear hz HK
                          go_wp2
                          go_roundw
                          case rel => exact ⟨3, by omega, by first | rfl | go_num, HK2, y1, y3, yN, hbr⟩
                          case measure => simp [intOf]
                        · have HQ : Hid (tailE x = numE x.sn x.sd) := by show _ = _; have hq := nums_2 (HK.out.1 (by decide)) (HK.out.2.1 (by decide)); rw [HT.out, hq, if_pos hz]
                          have e1 : (numE x.sn x.sd == 0) = false := by rw [beq_eq_false_iff_ne]; exact hz
                          have e2 := bneq' e1
                          clear hz HK
                          go_wp2
                          go_ret
                          exact ⟨reti (HV.out.trans HQ.out).symm, hbr⟩
                      · have HQ : Hid (tailE x = ownE x) := by show _ = _; have hq := nums_2 (HK.out.1 (by decide)) (HK.out.2.1 (by decide)); rw [HT.out, hq, if_neg (fun g => g (HK.out.2.2 (by decide)))]
                        clear HK HT N0 N1 N2
                        have p0 := y1.c0
                        have p1 := y1.c1
                        have p2 := y1.c2
                        have p3 := y1.c3
                        have p4 := y1.c4
                        have p5 := y1.c5
                        have p6 := y1.c6
                        have p7 := y1.c7
                        have p8 := y1.c8
                        have p9 := y1.c9
                        have p10 := y1.c10
                        have p11 := y1.c11
                        have p12 := y1.c12
                        have p13 := y1.c13
                        have p14 := y1.c14
                        have p20 := y3.c0
                        have p21 := y3.c1
                        go_wp2_with fail
                        ((with_reducible refine (CO.out.of hG hbr).mono ?_); rintro e wn ⟨rfl, hbn⟩)
                        replace hbr := bto hbr hbn
                        go_wp2
                        go_ret
                        exact ⟨reti (HV.out.trans HQ.out).symm, hbr⟩
              · have bh7 : dayB x.issued = false := not_true_b h7
                have HV : Hid (chkE x = 13) := by show _ = _; unfold chkE; rw [if_neg (fun h => h h1), if_neg (fun h => h.elim h2 h3), if_neg (fun h => h h4), if_neg (fun h => h.elim h5 h6), if_pos h7]
                clear h1 h4 h7
                go_enter Tryz.func64, Tryz.ntmps64
                obtain ⟨f0, f1, f2, f3, f4, f5, f6, f7, f8, f9, f10, f11, f12, f13, f14⟩ := x1.all
                go_wp2_with fail
                ((with_reducible refine (C1.out.of hG hb).mono ?_); rintro e w2 ⟨rfl, hb2⟩)
                clear f0 f1 f2 f3 f4 f5 f6 f7 f8 f9 f10 f11 f12 f13 f14
                replace x1 := x1.below hb2
                replace hb := bto hb hb2
                clear hb2
                obtain ⟨f0, f1, f2, f3, f4, f5, f6, f7, f8, f9, f10, f11, f12, f13, f14⟩ := x1.all
                go_wp2_with fail
                ((with_reducible refine (C2.out.of hG hb).mono ?_); rintro e w3 ⟨rfl, hb3⟩)
                clear f0 f1 f2 f3 f4 f5 f6 f7 f8 f9 f10 f11 f12 f13 f14
                replace x1 := x1.below hb3
                replace hb := bto hb hb3
                clear hb3
                obtain ⟨f0, f1, f2, f3, f4, f5, f6, f7, f8, f9, f10, f11, f12, f13, f14⟩ := x1.all
                go_wp2_with fail
                ((with_reducible refine (C3.out.of hG hb).mono ?_); rintro e w4 ⟨rfl, hb4⟩)
                clear f0 f1 f2 f3 f4 f5 f6 f7 f8 f9 f10 f11 f12 f13 f14
                replace x1 := x1.below hb4
                replace hb := bto hb hb4
                clear hb4
                obtain ⟨f0, f1, f2, f3, f4, f5, f6, f7, f8, f9, f10, f11, f12, f13, f14⟩ := x1.all
                go_wp2
                go_ret
                exact ⟨reti HV.out.symm, hb⟩
        · have bh4 : codeB x.cur = false := not_true_b h4
          have HV : Hid (chkE x = 12) := by show _ = _; unfold chkE; rw [if_neg (fun h => h h1), if_neg (fun h => h.elim h2 h3), if_pos h4]
          clear h1 h4
          go_enter Tryz.func64, Tryz.ntmps64
          obtain ⟨f0, f1, f2, f3, f4, f5, f6, f7, f8, f9, f10, f11, f12, f13, f14⟩ := x1.all
          go_wp2_with fail
          ((with_reducible refine (C1.out.of hG hb).mono ?_); rintro e w2 ⟨rfl, hb2⟩)
          clear f0 f1 f2 f3 f4 f5 f6 f7 f8 f9 f10 f11 f12 f13 f14
          replace x1 := x1.below hb2
          replace hb := bto hb hb2
          clear hb2
          obtain ⟨f0, f1, f2, f3, f4, f5, f6, f7, f8, f9, f10, f11, f12, f13, f14⟩ := x1.all
          go_wp2_with fail
          ((with_reducible refine (C2.out.of hG hb).mono ?_); rintro e w3 ⟨rfl, hb3⟩)
          clear f0 f1 f2 f3 f4 f5 f6 f7 f8 f9 f10 f11 f12 f13 f14
          replace x1 := x1.below hb3
          replace hb := bto hb hb3
          clear hb3
          obtain ⟨f0, f1, f2, f3, f4, f5, f6, f7, f8, f9, f10, f11, f12, f13, f14⟩ := x1.all
          go_wp2
          go_ret
          exact ⟨reti HV.out.symm, hb⟩
  · have bh1 : nameB x.id = false := not_true_b h1
    have HV : Hid (chkE x = 23) := by show _ = _; unfold chkE; rw [if_pos h1]
    clear h1
    go_enter Tryz.func64, Tryz.ntmps64
    obtain ⟨f0, f1, f2, f3, f4, f5, f6, f7, f8, f9, f10, f11, f12, f13, f14⟩ := x1.all
    go_wp2_with fail
    ((with_reducible refine (C1.out.of hG hb).mono ?_); rintro e w2 ⟨rfl, hb2⟩)
    clear f0 f1 f2 f3 f4 f5 f6 f7 f8 f9 f10 f11 f12 f13 f14
    replace x1 := x1.below hb2
    replace hb := bto hb hb2
    clear hb2
    obtain ⟨f0, f1, f2, f3, f4, f5, f6, f7, f8, f9, f10, f11, f12, f13, f14⟩ := x1.all
    go_wp2
    go_ret
    exact ⟨reti HV.out.symm, hb⟩
end Go.Proofs.YtgnppdkeiihlfaaGreatDoor
namespace Go.Proofs.YtgnppdkeiihlfaaGreatDoor
open Go.RowKit Num
set_option maxHeartbeats 1000000 in
theorem mCode {l : List UInt8} (hl : l.length ≤ 9223372036854775807) : Ret 109 #[.string ⟨l.toArray⟩] (.bool (codeB l)) := fun w hG => by
  have hb := Below.refl w.heap.size w
  have HN : Hid (l.all codeC = false → codeB l = false) := by intro h; unfold codeB; rw [h, Bool.and_false]
  have HY : Hid (l.all codeC = true → ((l.length : Int) == 3) = codeB l) := by intro h; unfold codeB; rw [h, Bool.and_true]; by_cases h3 : l.length = 3 <;> simp [h3] <;> omega
  go_enter Tryz.func109, Tryz.ntmps109
  go_wp2_with fail
  go_loop [6] (fun iv => ∃ k : Nat, k ≤ l.length ∧ iv = .int .i64 (k : Int) ∧ Hid ((l.take k).all codeC = true)) (fun iv => l.length - (intOf iv).toNat)
  case atStart => exact ⟨0, Nat.zero_le _, rfl, rfl⟩
  case round =>
    obtain ⟨k, hk, rfl, HK⟩ := hrel
    by_cases hlt : k < l.length
    · have hlt' : k < (⟨l.toArray⟩ : ByteArray).size := by show k < l.toArray.size; simpa using hlt
      obtain ⟨x, hx⟩ : ∃ x, x = (⟨l.toArray⟩ : ByteArray)[k] := ⟨_, rfl⟩
      have hxl : l[k]? = some x := by rw [hx]; simp [hlt]; rfl
      have HX := Lib.hid hxl
      clear hxl
      have hx2 : ∀ hp, (⟨l.toArray⟩ : ByteArray)[k]'hp = x := fun _ => hx.symm
      clear hx
      by_cases d1 : (x.toNat : Int) < 65
      · have ed1 : decide ((x.toNat : Int) < 65) = true := decide_eq_true d1
        go_wp2
        go_ret
        exact ⟨retb (HN.out (all_no' HX.out (not_true_b (fun h => by have := (codeC_iff _).1 h; omega)))).symm, hb⟩
      · have ed1 : decide ((x.toNat : Int) < 65) = false := decide_eq_false d1
        by_cases d2 : 90 < (x.toNat : Int)
        · have ed2 : decide (90 < (x.toNat : Int)) = true := decide_eq_true d2
          go_wp2
          go_ret
          exact ⟨retb (HN.out (all_no' HX.out (not_true_b (fun h => by have := (codeC_iff _).1 h; omega)))).symm, hb⟩
        · have ed2 : decide (90 < (x.toNat : Int)) = false := decide_eq_false d2
          go_wp2
          go_round
          case rel => exact ⟨k + 1, by omega, by go_num, all_snoc' HK.out HX.out ((codeC_iff _).2 (by omega))⟩
          case measure => simp [intOf]; omega
    · have HK' : Hid (l.all codeC = true) := by have := HK.out; rw [List.take_of_length_le (by omega)] at this; exact this
      clear HK
      go_wp2
      go_ret
      exact ⟨retb (HY.out HK'.out), hb⟩
set_option maxHeartbeats 1000000 in
theorem jCode5L {l : List UInt8} (hl : l.length ≤ 9223372036854775807) : Ret 110 #[.string ⟨l.toArray⟩] (.bool (codeB l)) := fun w hG => by
  have hb := Below.refl w.heap.size w
  have HN : Hid (l.all codeC = false → codeB l = false) := by intro h; unfold codeB; rw [h, Bool.and_false]
  have HY : Hid (l.all codeC = true → ((l.length : Int) == 3) = codeB l) := by intro h; unfold codeB; rw [h, Bool.and_true]; by_cases h3 : l.length = 3 <;> simp [h3] <;> omega
  go_enter Tryz.func110, Tryz.ntmps110
  go_wp2_with fail
  go_loop [3] (fun iv => ∃ k : Nat, k ≤ l.length ∧ iv = .int .i64 (k : Int) ∧ Hid ((l.take k).all codeC = true)) (fun iv => l.length - (intOf iv).toNat)
  case atStart => exact ⟨0, Nat.zero_le _, rfl, rfl⟩
  case round =>
    obtain ⟨k, hk, rfl, HK⟩ := hrel
    by_cases hlt : k < l.length
    · have hlt' : k < (⟨l.toArray⟩ : ByteArray).size := by show k < l.toArray.size; simpa using hlt
      obtain ⟨x, hx⟩ : ∃ x, x = (⟨l.toArray⟩ : ByteArray)[k] := ⟨_, rfl⟩
      have hxl : l[k]? = some x := by rw [hx]; simp [hlt]; rfl
      have HX := Lib.hid hxl
      clear hxl
      have hx2 : ∀ hp, (⟨l.toArray⟩ : ByteArray)[k]'hp = x := fun _ => hx.symm
      clear hx
      by_cases d1 : (x.toNat : Int) < 65
      · have ed1 : decide ((x.toNat : Int) < 65) = true := decide_eq_true d1
        go_wp2
        go_ret
        exact ⟨retb (HN.out (all_no' HX.out (not_true_b (fun h => by have := (codeC_iff _).1 h; omega)))).symm, hb⟩
      · have ed1 : decide ((x.toNat : Int) < 65) = false := decide_eq_false d1
        by_cases d2 : 90 < (x.toNat : Int)
        · have ed2 : decide (90 < (x.toNat : Int)) = true := decide_eq_true d2
          go_wp2
          go_ret
          exact ⟨retb (HN.out (all_no' HX.out (not_true_b (fun h => by have := (codeC_iff _).1 h; omega)))).symm, hb⟩
        · have ed2 : decide (90 < (x.toNat : Int)) = false := decide_eq_false d2
          go_wp2
          go_round
          case rel => exact ⟨k + 1, by omega, by go_num, all_snoc' HK.out HX.out ((codeC_iff _).2 (by omega))⟩
          case measure => simp [intOf]; omega
    · have HK' : Hid (l.all codeC = true) := by have := HK.out; rw [List.take_of_length_le (by omega)] at this; exact this
      clear HK
      go_wp2
      go_ret
      exact ⟨retb (HY.out HK'.out), hb⟩
end Go.Proofs.YtgnppdkeiihlfaaGreatDoor
