/- Texts put together: Ie. -/
import Derived.Test.YtgnppdkeiihlfaaGreatDoorF1
import Derived.Laws.EntriesVeiled
namespace Go.Proofs.YtgnppdkeiihlfaaGreatDoor
open Go.RowKit Num
def IBox (w : World) (b : Nat) (x : Ins) : Prop := Blk w b #[Value.string ⟨List.toArray x.id⟩, Value.int .i64 x.kind, Value.string ⟨List.toArray x.cur⟩, Value.int .i64 x.places, Value.int .i64 x.issued, Value.int .i64 x.matures, Value.string ⟨List.toArray x.fn⟩, Value.string ⟨List.toArray x.fd⟩, Value.string ⟨List.toArray x.cn⟩, Value.string ⟨List.toArray x.cd⟩, Value.int .i64 x.months, Value.int .i64 x.count, Value.string ⟨List.toArray x.other⟩, Value.string ⟨List.toArray x.sn⟩, Value.string ⟨List.toArray x.sd⟩]
section
variable {w w' : World} {b : Nat} {x : Ins}
theorem IBox.new (w : World) (x : Ins) (t : TypeId) : IBox (w.alloc (.cells #[Value.string ⟨List.toArray x.id⟩, Value.int .i64 x.kind, Value.string ⟨List.toArray x.cur⟩, Value.int .i64 x.places, Value.int .i64 x.issued, Value.int .i64 x.matures, Value.string ⟨List.toArray x.fn⟩, Value.string ⟨List.toArray x.fd⟩, Value.string ⟨List.toArray x.cn⟩, Value.string ⟨List.toArray x.cd⟩, Value.int .i64 x.months, Value.int .i64 x.count, Value.string ⟨List.toArray x.other⟩, Value.string ⟨List.toArray x.sn⟩, Value.string ⟨List.toArray x.sd⟩] t)) w.heap.size x := Blk.new w _ t
theorem IBox.below (h : IBox w b x) (hb : Below w.heap.size w w') : IBox w' b x := Blk.below h hb
theorem IBox.c0 (h : IBox w b x) : w.cell? ⟨b, 0, none⟩ = some (Value.string ⟨List.toArray x.id⟩) := Blk.c h 0
theorem IBox.c1 (h : IBox w b x) : w.cell? ⟨b, 1, none⟩ = some (Value.int .i64 x.kind) := Blk.c h 1
theorem IBox.c2 (h : IBox w b x) : w.cell? ⟨b, 2, none⟩ = some (Value.string ⟨List.toArray x.cur⟩) := Blk.c h 2
theorem IBox.c3 (h : IBox w b x) : w.cell? ⟨b, 3, none⟩ = some (Value.int .i64 x.places) := Blk.c h 3
theorem IBox.c4 (h : IBox w b x) : w.cell? ⟨b, 4, none⟩ = some (Value.int .i64 x.issued) := Blk.c h 4
theorem IBox.c5 (h : IBox w b x) : w.cell? ⟨b, 5, none⟩ = some (Value.int .i64 x.matures) := Blk.c h 5
theorem IBox.c6 (h : IBox w b x) : w.cell? ⟨b, 6, none⟩ = some (Value.string ⟨List.toArray x.fn⟩) := Blk.c h 6
theorem IBox.c7 (h : IBox w b x) : w.cell? ⟨b, 7, none⟩ = some (Value.string ⟨List.toArray x.fd⟩) := Blk.c h 7
theorem IBox.c8 (h : IBox w b x) : w.cell? ⟨b, 8, none⟩ = some (Value.string ⟨List.toArray x.cn⟩) := Blk.c h 8
theorem IBox.c9 (h : IBox w b x) : w.cell? ⟨b, 9, none⟩ = some (Value.string ⟨List.toArray x.cd⟩) := Blk.c h 9
theorem IBox.c10 (h : IBox w b x) : w.cell? ⟨b, 10, none⟩ = some (Value.int .i64 x.months) := Blk.c h 10
theorem IBox.c11 (h : IBox w b x) : w.cell? ⟨b, 11, none⟩ = some (Value.int .i64 x.count) := Blk.c h 11
theorem IBox.c12 (h : IBox w b x) : w.cell? ⟨b, 12, none⟩ = some (Value.string ⟨List.toArray x.other⟩) := Blk.c h 12
theorem IBox.c13 (h : IBox w b x) : w.cell? ⟨b, 13, none⟩ = some (Value.string ⟨List.toArray x.sn⟩) := Blk.c h 13
theorem IBox.c14 (h : IBox w b x) : w.cell? ⟨b, 14, none⟩ = some (Value.string ⟨List.toArray x.sd⟩) := Blk.c h 14
theorem IBox.all (h : IBox w b x) : w.cell? ⟨b, 0, none⟩ = some (Value.string ⟨List.toArray x.id⟩) ∧ w.cell? ⟨b, 1, none⟩ = some (Value.int .i64 x.kind) ∧ w.cell? ⟨b, 2, none⟩ = some (Value.string ⟨List.toArray x.cur⟩) ∧ w.cell? ⟨b, 3, none⟩ = some (Value.int .i64 x.places) ∧ w.cell? ⟨b, 4, none⟩ = some (Value.int .i64 x.issued) ∧ w.cell? ⟨b, 5, none⟩ = some (Value.int .i64 x.matures) ∧ w.cell? ⟨b, 6, none⟩ = some (Value.string ⟨List.toArray x.fn⟩) ∧ w.cell? ⟨b, 7, none⟩ = some (Value.string ⟨List.toArray x.fd⟩) ∧ w.cell? ⟨b, 8, none⟩ = some (Value.string ⟨List.toArray x.cn⟩) ∧ w.cell? ⟨b, 9, none⟩ = some (Value.string ⟨List.toArray x.cd⟩) ∧ w.cell? ⟨b, 10, none⟩ = some (Value.int .i64 x.months) ∧ w.cell? ⟨b, 11, none⟩ = some (Value.int .i64 x.count) ∧ w.cell? ⟨b, 12, none⟩ = some (Value.string ⟨List.toArray x.other⟩) ∧ w.cell? ⟨b, 13, none⟩ = some (Value.string ⟨List.toArray x.sn⟩) ∧ w.cell? ⟨b, 14, none⟩ = some (Value.string ⟨List.toArray x.sd⟩) := ⟨h.c0, h.c1, h.c2, h.c3, h.c4, h.c5, h.c6, h.c7, h.c8, h.c9, h.c10, h.c11, h.c12, h.c13, h.c14⟩
end
structure Ins.Small (x : Ins) : Prop where
  id : x.id.length ≤ 60
  cur : x.cur.length ≤ 60
  other : x.other.length ≤ 60
  fn : x.fn.length ≤ 60
  fd : x.fd.length ≤ 60
  cn : x.cn.length ≤ 60
  cd : x.cd.length ≤ 60
  sn : x.sn.length ≤ 60
  sd : x.sd.length ≤ 60
def sg (l : List UInt8) : Int := cmpZ (val l) 0
def plainE (x : Ins) : Int := if sg x.fn ≠ 0 ∨ sg x.cn ≠ 0 ∨ x.months ≠ 0 ∨ x.count ≠ 0 ∨ sg x.sn ≠ 0 ∨ x.other ≠ [] then 1 else 0
def monthsB (m : Int) : Bool := decide (m ∈ [(1 : Int), 2, 3, 4, 6, 12])
def bondE (x : Ins) : Int := if sg x.fn ≤ 0 ∨ sg x.cn < 0 ∨ ¬ monthsB x.months = true ∨ x.count < 1 ∨ 5 < x.count then 2 else if x.other ≠ [] ∨ sg x.sn ≠ 0 then 1 else 0
def fwdE (x : Ins) : Int := if ¬ codeB x.other = true ∨ x.other = x.cur then 12 else if sg x.sn ≤ 0 then 2 else if sg x.fn ≠ 0 ∨ sg x.cn ≠ 0 ∨ x.months ≠ 0 ∨ x.count ≠ 0 then 1 else 0
def rulesV : Value := .agg #[.bool false, .nilFunc, .bool false, .func (Fn.func 191) #[] #[], .bool true, .func (Fn.func 192) #[] #[], .bool false, .func (Fn.func 191) #[] #[], .bool false, .func (Fn.func 191) #[] #[], .bool true, .func (Fn.func 193) #[] #[]]
set_option maxRecDepth 100000 in
theorem iRules : Ret 132 #[] rulesV := fun w _ => by
  go_enter Tryz.func132, Tryz.ntmps132
  go_wp2
  refine bodyPost_ret (v := rulesV) (by simp [results, Tryz.results132, go_sem, rulesV]) rfl ?_
  exact ⟨rfl, below_alloc _ _⟩
def idxL {α : Type} [DecidableEq α] (v : α) : List α → Nat → Int
  | [], _ => -1
  | a :: t, k => if v = a then (k : Int) else idxL v t (k + 1)
theorem idxL_drop {α : Type} [DecidableEq α] (v : α) (zs : List α) (k : Nat) (y : α) (h : zs[k]? = some y) : idxL v (zs.drop k) k = if v = y then (k : Int) else idxL v (zs.drop (k + 1)) (k + 1) := by
  obtain ⟨hk, rfl⟩ := List.getElem?_eq_some_iff.1 h
  rw [List.drop_eq_getElem_cons hk]; rfl
theorem idxL_mem {α : Type} [DecidableEq α] (v : α) : ∀ (zs : List α) (k : Nat), 0 ≤ idxL v zs k ↔ v ∈ zs
  | [], k => by simp [idxL]
  | a :: t, k => by
    unfold idxL
    by_cases h : v = a
    · simp [h]
    · rw [if_neg h, idxL_mem v t (k + 1)]; simp [h]
set_option maxHeartbeats 1000000 in
theorem idx_int (v : Int) (zs : List Int) (g c : Nat) (w : World) (h : Blk w g (zs.map (Value.int .i64)).toArray) (hl : zs.length ≤ 1000) :
    Calls Tryz.prog 265 #[.slice (some ⟨g, 0, none⟩) zs.length c, .int .i64 v] w fun e w' => e = .returned (.int .i64 (idxL v zs 0)) ∧ w = w' := by
  have HD := Lib.hid (fun k y h => idxL_drop v zs k y h)
  go_enter Tryz.func265, Tryz.ntmps265
  go_wp2_with fail
  go_loop [8] (fun iv => ∃ k : Nat, k ≤ zs.length ∧ iv = .int .i64 (k : Int) ∧ Hid (idxL v zs 0 = idxL v (zs.drop k) k)) (fun iv => zs.length - (intOf iv).toNat)
  case atStart => exact ⟨0, Nat.zero_le _, rfl, rfl⟩
  case round =>
    obtain ⟨k, hk, rfl, HK⟩ := hrel
    by_cases hlt : k < zs.length
    · obtain ⟨y, hy⟩ : ∃ y, zs[k]? = some y := ⟨_, List.getElem?_eq_getElem hlt⟩
      have hc : w.cell? ⟨g, k, none⟩ = some (.int .i64 y) := by rw [h.c k]; simp [hy]
      have HX := Lib.hid (HD.out k y hy)
      clear hy
      by_cases hv : v = y
      · have e1 : (v == y) = true := by rw [beq_iff_eq]; exact hv
        have HV : Hid (idxL v zs 0 = k) := by show _ = _; rw [HK.out, HX.out, if_pos hv]
        clear hv
        go_wp2
        go_ret
        exact ⟨reti HV.out.symm, rfl⟩
      · have e1 : (v == y) = false := by rw [beq_eq_false_iff_ne]; exact hv
        have HV : Hid (idxL v zs 0 = idxL v (zs.drop (k + 1)) (k + 1)) := by show _ = _; rw [HK.out, HX.out, if_neg hv]
        clear hv
        go_wp2
        go_round
        case rel => exact ⟨k + 1, by omega, by go_num, HV⟩
        case measure => simp [intOf]; omega
    · have HV : Hid (idxL v zs 0 = -1) := by show _ = _; rw [HK.out, List.drop_of_length_le (by omega)]; rfl
      go_wp2
      go_ret
      exact ⟨reti HV.out.symm, rfl⟩
theorem iContains (v : Int) (g : Nat) (w : World) (h : Blk w g #[.int .i64 1, .int .i64 2, .int .i64 3, .int .i64 4, .int .i64 6, .int .i64 12]) :
    Calls Tryz.prog 228 #[.slice (some ⟨g, 0, none⟩) 6 6, .int .i64 v] w fun e w' => e = .returned (.bool (monthsB v)) ∧ Below w.heap.size w w' := by
  have c1 : Calls Tryz.prog 265 #[.slice (some ⟨g, 0, none⟩) 6 6, .int .i64 v] w _ := idx_int v [1, 2, 3, 4, 6, 12] g 6 w h (by decide)
  have hm := idxL_mem v [1, 2, 3, 4, 6, 12] 0
  generalize idxL v [1, 2, 3, 4, 6, 12] 0 = i at *
  have HV : Hid (decide (0 ≤ i) = monthsB v) := by show _ = _; unfold monthsB; exact decide_eq_decide.2 hm
  have H1 := Lib.hid c1
  clear c1 hm
  go_enter Tryz.func228, Tryz.ntmps228
  go_wp2_with fail
  ((with_reducible refine H1.out.mono ?_); rintro e w' ⟨rfl, rfl⟩)
  go_wp2
  go_ret
  exact ⟨retb HV.out, Below.refl _ _⟩
set_option maxHeartbeats 2000000 in
set_option maxRecDepth 100000 in
theorem iPlain (x : Ins) (hx : x.Small) : Ret 191 #[(Value.agg #[Value.string ⟨List.toArray x.id⟩, Value.int .i64 x.kind, Value.string ⟨List.toArray x.cur⟩, Value.int .i64 x.places, Value.int .i64 x.issued, Value.int .i64 x.matures, Value.string ⟨List.toArray x.fn⟩, Value.string ⟨List.toArray x.fd⟩, Value.string ⟨List.toArray x.cn⟩, Value.string ⟨List.toArray x.cd⟩, Value.int .i64 x.months, Value.int .i64 x.count, Value.string ⟨List.toArray x.other⟩, Value.string ⟨List.toArray x.sn⟩, Value.string ⟨List.toArray x.sd⟩])] (.int .i64 (plainE x)) := fun w hG => by
  have C1 := Lib.hid (iSign (l := x.fn) (l' := x.fd) (Nat.le_trans hx.fn (by decide)) (c := sg x.fn) rfl)
  have C2 := Lib.hid (iSign (l := x.cn) (l' := x.cd) (Nat.le_trans hx.cn (by decide)) (c := sg x.cn) rfl)
  have C3 := Lib.hid (iSign (l := x.sn) (l' := x.sd) (Nat.le_trans hx.sn (by decide)) (c := sg x.sn) rfl)
  have x1 := IBox.new w x 27
  have hb := below_alloc w (.cells #[Value.string ⟨List.toArray x.id⟩, Value.int .i64 x.kind, Value.string ⟨List.toArray x.cur⟩, Value.int .i64 x.places, Value.int .i64 x.issued, Value.int .i64 x.matures, Value.string ⟨List.toArray x.fn⟩, Value.string ⟨List.toArray x.fd⟩, Value.string ⟨List.toArray x.cn⟩, Value.string ⟨List.toArray x.cd⟩, Value.int .i64 x.months, Value.int .i64 x.count, Value.string ⟨List.toArray x.other⟩, Value.string ⟨List.toArray x.sn⟩, Value.string ⟨List.toArray x.sd⟩] 27)
  by_cases h1 : sg x.fn = 0
  · have bh1 : (sg x.fn == 0) = true := by rw [beq_iff_eq]; exact h1
    have nh1 := bneq bh1
    by_cases h2 : sg x.cn = 0
    · have bh2 : (sg x.cn == 0) = true := by rw [beq_iff_eq]; exact h2
      have nh2 := bneq bh2
      by_cases h3 : x.months = 0
      · have bh3 : (x.months == 0) = true := by rw [beq_iff_eq]; exact h3
        have nh3 := bneq bh3
        by_cases h4 : x.count = 0
        · have bh4 : (x.count == 0) = true := by rw [beq_iff_eq]; exact h4
          have nh4 := bneq bh4
          by_cases h5 : sg x.sn = 0
          · have bh5 : (sg x.sn == 0) = true := by rw [beq_iff_eq]; exact h5
            have nh5 := bneq bh5
            by_cases h6 : x.other = []
            · have bh6 : (x.other == []) = true := by rw [beq_iff_eq]; exact h6
              have eh6 : (x.other).isEmpty = true := by rw [List.isEmpty_iff]; exact h6
              have HV : Hid (plainE x = 0) := by show _ = _; unfold plainE; rw [if_neg (fun h => h.elim (fun h => h h1) (fun h => h.elim (fun h => h h2) (fun h => h.elim (fun h => h h3) (fun h => h.elim (fun h => h h4) (fun h => h.elim (fun h => h h5) (fun h => h h6))))))]
              clear h1 h2 h3 h4 h5 h6
              go_enter Tryz.func191, Tryz.ntmps191
              obtain ⟨qx1_0, qx1_1, qx1_2, qx1_3, qx1_4, qx1_5, qx1_6, qx1_7, qx1_8, qx1_9, qx1_10, qx1_11, qx1_12, qx1_13, qx1_14⟩ := x1.all
              go_wp2_with fail
              ((with_reducible refine (C1.out.of hG hb).mono ?_); rintro e w2 ⟨rfl, hb2⟩)
              clear qx1_0 qx1_1 qx1_2 qx1_3 qx1_4 qx1_5 qx1_6 qx1_7 qx1_8 qx1_9 qx1_10 qx1_11 qx1_12 qx1_13 qx1_14
              replace x1 := x1.below hb2
              replace hb := bto hb hb2
              clear hb2
              obtain ⟨qx1_0, qx1_1, qx1_2, qx1_3, qx1_4, qx1_5, qx1_6, qx1_7, qx1_8, qx1_9, qx1_10, qx1_11, qx1_12, qx1_13, qx1_14⟩ := x1.all
              go_wp2_with fail
              ((with_reducible refine (C2.out.of hG hb).mono ?_); rintro e w3 ⟨rfl, hb3⟩)
              clear qx1_0 qx1_1 qx1_2 qx1_3 qx1_4 qx1_5 qx1_6 qx1_7 qx1_8 qx1_9 qx1_10 qx1_11 qx1_12 qx1_13 qx1_14
              replace x1 := x1.below hb3
              replace hb := bto hb hb3
              clear hb3
              obtain ⟨qx1_0, qx1_1, qx1_2, qx1_3, qx1_4, qx1_5, qx1_6, qx1_7, qx1_8, qx1_9, qx1_10, qx1_11, qx1_12, qx1_13, qx1_14⟩ := x1.all
              go_wp2_with fail
              ((with_reducible refine (C3.out.of hG hb).mono ?_); rintro e w4 ⟨rfl, hb4⟩)
              clear qx1_0 qx1_1 qx1_2 qx1_3 qx1_4 qx1_5 qx1_6 qx1_7 qx1_8 qx1_9 qx1_10 qx1_11 qx1_12 qx1_13 qx1_14
              replace x1 := x1.below hb4
              replace hb := bto hb hb4
              clear hb4
              obtain ⟨qx1_0, qx1_1, qx1_2, qx1_3, qx1_4, qx1_5, qx1_6, qx1_7, qx1_8, qx1_9, qx1_10, qx1_11, qx1_12, qx1_13, qx1_14⟩ := x1.all
              go_wp2
              go_ret
              exact ⟨reti HV.out.symm, hb⟩
            · have bh6 : (x.other == []) = false := by rw [beq_eq_false_iff_ne]; exact h6
              have eh6 : (x.other).isEmpty = false := by rw [List.isEmpty_eq_false_iff]; exact h6
              have HV : Hid (plainE x = 1) := by show _ = _; unfold plainE; rw [if_pos (.inr (.inr (.inr (.inr (.inr h6)))))]
              clear h1 h2 h3 h4 h5 h6
              go_enter Tryz.func191, Tryz.ntmps191
              obtain ⟨qx1_0, qx1_1, qx1_2, qx1_3, qx1_4, qx1_5, qx1_6, qx1_7, qx1_8, qx1_9, qx1_10, qx1_11, qx1_12, qx1_13, qx1_14⟩ := x1.all
              go_wp2_with fail
              ((with_reducible refine (C1.out.of hG hb).mono ?_); rintro e w2 ⟨rfl, hb2⟩)
              clear qx1_0 qx1_1 qx1_2 qx1_3 qx1_4 qx1_5 qx1_6 qx1_7 qx1_8 qx1_9 qx1_10 qx1_11 qx1_12 qx1_13 qx1_14
              replace x1 := x1.below hb2
              replace hb := bto hb hb2
              clear hb2
              obtain ⟨qx1_0, qx1_1, qx1_2, qx1_3, qx1_4, qx1_5, qx1_6, qx1_7, qx1_8, qx1_9, qx1_10, qx1_11, qx1_12, qx1_13, qx1_14⟩ := x1.all
              go_wp2_with fail
              ((with_reducible refine (C2.out.of hG hb).mono ?_); rintro e w3 ⟨rfl, hb3⟩)
              clear qx1_0 qx1_1 qx1_2 qx1_3 qx1_4 qx1_5 qx1_6 qx1_7 qx1_8 qx1_9 qx1_10 qx1_11 qx1_12 qx1_13 qx1_14
              replace x1 := x1.below hb3
              replace hb := bto hb hb3
              clear hb3
              obtain ⟨qx1_0, qx1_1, qx1_2, qx1_3, qx1_4, qx1_5, qx1_6, qx1_7, qx1_8, qx1_9, qx1_10, qx1_11, qx1_12, qx1_13, qx1_14⟩ := x1.all
              go_wp2_with fail
              ((with_reducible refine (C3.out.of hG hb).mono ?_); rintro e w4 ⟨rfl, hb4⟩)
              clear qx1_0 qx1_1 qx1_2 qx1_3 qx1_4 qx1_5 qx1_6 qx1_7 qx1_8 qx1_9 qx1_10 qx1_11 qx1_12 qx1_13 qx1_14
              replace x1 := x1.below hb4
              replace hb := bto hb hb4
              clear hb4
              obtain ⟨qx1_0, qx1_1, qx1_2, qx1_3, qx1_4, qx1_5, qx1_6, qx1_7, qx1_8, qx1_9, qx1_10, qx1_11, qx1_12, qx1_13, qx1_14⟩ := x1.all
              go_wp2
              go_ret
              exact ⟨reti HV.out.symm, hb⟩
          · have bh5 : (sg x.sn == 0) = false := by rw [beq_eq_false_iff_ne]; exact h5
            have nh5 := bneq' bh5
            have HV : Hid (plainE x = 1) := by show _ = _; unfold plainE; rw [if_pos (.inr (.inr (.inr (.inr (.inl h5)))))]
            clear h1 h2 h3 h4 h5
            go_enter Tryz.func191, Tryz.ntmps191
            obtain ⟨qx1_0, qx1_1, qx1_2, qx1_3, qx1_4, qx1_5, qx1_6, qx1_7, qx1_8, qx1_9, qx1_10, qx1_11, qx1_12, qx1_13, qx1_14⟩ := x1.all
            go_wp2_with fail
            ((with_reducible refine (C1.out.of hG hb).mono ?_); rintro e w2 ⟨rfl, hb2⟩)
            clear qx1_0 qx1_1 qx1_2 qx1_3 qx1_4 qx1_5 qx1_6 qx1_7 qx1_8 qx1_9 qx1_10 qx1_11 qx1_12 qx1_13 qx1_14
            replace x1 := x1.below hb2
            replace hb := bto hb hb2
            clear hb2
            obtain ⟨qx1_0, qx1_1, qx1_2, qx1_3, qx1_4, qx1_5, qx1_6, qx1_7, qx1_8, qx1_9, qx1_10, qx1_11, qx1_12, qx1_13, qx1_14⟩ := x1.all
            go_wp2_with fail
            ((with_reducible refine (C2.out.of hG hb).mono ?_); rintro e w3 ⟨rfl, hb3⟩)
            clear qx1_0 qx1_1 qx1_2 qx1_3 qx1_4 qx1_5 qx1_6 qx1_7 qx1_8 qx1_9 qx1_10 qx1_11 qx1_12 qx1_13 qx1_14
            replace x1 := x1.below hb3
            replace hb := bto hb hb3
            clear hb3
            obtain ⟨qx1_0, qx1_1, qx1_2, qx1_3, qx1_4, qx1_5, qx1_6, qx1_7, qx1_8, qx1_9, qx1_10, qx1_11, qx1_12, qx1_13, qx1_14⟩ := x1.all
            go_wp2_with fail
            ((with_reducible refine (C3.out.of hG hb).mono ?_); rintro e w4 ⟨rfl, hb4⟩)
            clear qx1_0 qx1_1 qx1_2 qx1_3 qx1_4 qx1_5 qx1_6 qx1_7 qx1_8 qx1_9 qx1_10 qx1_11 qx1_12 qx1_13 qx1_14
            replace x1 := x1.below hb4
            replace hb := bto hb hb4
            clear hb4
            obtain ⟨qx1_0, qx1_1, qx1_2, qx1_3, qx1_4, qx1_5, qx1_6, qx1_7, qx1_8, qx1_9, qx1_10, qx1_11, qx1_12, qx1_13, qx1_14⟩ := x1.all
            go_wp2
            go_ret
            exact ⟨reti HV.out.symm, hb⟩
        · have bh4 : (x.count == 0) = false := by rw [beq_eq_false_iff_ne]; exact h4
          have nh4 := bneq' bh4
          have HV : Hid (plainE x = 1) := by show _ = _; unfold plainE; rw [if_pos (.inr (.inr (.inr (.inl h4))))]
          clear h1 h2 h3 h4
          go_enter Tryz.func191, Tryz.ntmps191
          obtain ⟨qx1_0, qx1_1, qx1_2, qx1_3, qx1_4, qx1_5, qx1_6, qx1_7, qx1_8, qx1_9, qx1_10, qx1_11, qx1_12, qx1_13, qx1_14⟩ := x1.all
          go_wp2_with fail
          ((with_reducible refine (C1.out.of hG hb).mono ?_); rintro e w2 ⟨rfl, hb2⟩)
          clear qx1_0 qx1_1 qx1_2 qx1_3 qx1_4 qx1_5 qx1_6 qx1_7 qx1_8 qx1_9 qx1_10 qx1_11 qx1_12 qx1_13 qx1_14
          replace x1 := x1.below hb2
          replace hb := bto hb hb2
          clear hb2
          obtain ⟨qx1_0, qx1_1, qx1_2, qx1_3, qx1_4, qx1_5, qx1_6, qx1_7, qx1_8, qx1_9, qx1_10, qx1_11, qx1_12, qx1_13, qx1_14⟩ := x1.all
          go_wp2_with fail
          ((with_reducible refine (C2.out.of hG hb).mono ?_); rintro e w3 ⟨rfl, hb3⟩)
          clear qx1_0 qx1_1 qx1_2 qx1_3 qx1_4 qx1_5 qx1_6 qx1_7 qx1_8 qx1_9 qx1_10 qx1_11 qx1_12 qx1_13 qx1_14
          replace x1 := x1.below hb3
          replace hb := bto hb hb3
          clear hb3
          obtain ⟨qx1_0, qx1_1, qx1_2, qx1_3, qx1_4, qx1_5, qx1_6, qx1_7, qx1_8, qx1_9, qx1_10, qx1_11, qx1_12, qx1_13, qx1_14⟩ := x1.all
          go_wp2
          go_ret
          exact ⟨reti HV.out.symm, hb⟩
      · have bh3 : (x.months == 0) = false := by rw [beq_eq_false_iff_ne]; exact h3
        have nh3 := bneq' bh3
        have HV : Hid (plainE x = 1) := by show _ = _; unfold plainE; rw [if_pos (.inr (.inr (.inl h3)))]
        clear h1 h2 h3
        go_enter Tryz.func191, Tryz.ntmps191
        obtain ⟨qx1_0, qx1_1, qx1_2, qx1_3, qx1_4, qx1_5, qx1_6, qx1_7, qx1_8, qx1_9, qx1_10, qx1_11, qx1_12, qx1_13, qx1_14⟩ := x1.all
        go_wp2_with fail
        ((with_reducible refine (C1.out.of hG hb).mono ?_); rintro e w2 ⟨rfl, hb2⟩)
        clear qx1_0 qx1_1 qx1_2 qx1_3 qx1_4 qx1_5 qx1_6 qx1_7 qx1_8 qx1_9 qx1_10 qx1_11 qx1_12 qx1_13 qx1_14
        replace x1 := x1.below hb2
        replace hb := bto hb hb2
        clear hb2
        obtain ⟨qx1_0, qx1_1, qx1_2, qx1_3, qx1_4, qx1_5, qx1_6, qx1_7, qx1_8, qx1_9, qx1_10, qx1_11, qx1_12, qx1_13, qx1_14⟩ := x1.all
        go_wp2_with fail
        ((with_reducible refine (C2.out.of hG hb).mono ?_); rintro e w3 ⟨rfl, hb3⟩)
        clear qx1_0 qx1_1 qx1_2 qx1_3 qx1_4 qx1_5 qx1_6 qx1_7 qx1_8 qx1_9 qx1_10 qx1_11 qx1_12 qx1_13 qx1_14
        replace x1 := x1.below hb3
        replace hb := bto hb hb3
        clear hb3
        obtain ⟨qx1_0, qx1_1, qx1_2, qx1_3, qx1_4, qx1_5, qx1_6, qx1_7, qx1_8, qx1_9, qx1_10, qx1_11, qx1_12, qx1_13, qx1_14⟩ := x1.all
        go_wp2
        go_ret
        exact ⟨reti HV.out.symm, hb⟩
    · have bh2 : (sg x.cn == 0) = false := by rw [beq_eq_false_iff_ne]; exact h2
      have nh2 := bneq' bh2
      have HV : Hid (plainE x = 1) := by show _ = _; unfold plainE; rw [if_pos (.inr (.inl h2))]
      clear h1 h2
      go_enter Tryz.func191, Tryz.ntmps191
      obtain ⟨qx1_0, qx1_1, qx1_2, qx1_3, qx1_4, qx1_5, qx1_6, qx1_7, qx1_8, qx1_9, qx1_10, qx1_11, qx1_12, qx1_13, qx1_14⟩ := x1.all
      go_wp2_with fail
      ((with_reducible refine (C1.out.of hG hb).mono ?_); rintro e w2 ⟨rfl, hb2⟩)
      clear qx1_0 qx1_1 qx1_2 qx1_3 qx1_4 qx1_5 qx1_6 qx1_7 qx1_8 qx1_9 qx1_10 qx1_11 qx1_12 qx1_13 qx1_14
      replace x1 := x1.below hb2
      replace hb := bto hb hb2
      clear hb2
      obtain ⟨qx1_0, qx1_1, qx1_2, qx1_3, qx1_4, qx1_5, qx1_6, qx1_7, qx1_8, qx1_9, qx1_10, qx1_11, qx1_12, qx1_13, qx1_14⟩ := x1.all
      go_wp2_with fail
      ((with_reducible refine (C2.out.of hG hb).mono ?_); rintro e w3 ⟨rfl, hb3⟩)
      clear qx1_0 qx1_1 qx1_2 qx1_3 qx1_4 qx1_5 qx1_6 qx1_7 qx1_8 qx1_9 qx1_10 qx1_11 qx1_12 qx1_13 qx1_14
      replace x1 := x1.below hb3
      replace hb := bto hb hb3
      clear hb3
      obtain ⟨qx1_0, qx1_1, qx1_2, qx1_3, qx1_4, qx1_5, qx1_6, qx1_7, qx1_8, qx1_9, qx1_10, qx1_11, qx1_12, qx1_13, qx1_14⟩ := x1.all
      go_wp2
      go_ret
      exact ⟨reti HV.out.symm, hb⟩
  · have bh1 : (sg x.fn == 0) = false := by rw [beq_eq_false_iff_ne]; exact h1
    have nh1 := bneq' bh1
    have HV : Hid (plainE x = 1) := by show _ = _; unfold plainE; rw [if_pos (.inl h1)]
    clear h1
    go_enter Tryz.func191, Tryz.ntmps191
    obtain ⟨qx1_0, qx1_1, qx1_2, qx1_3, qx1_4, qx1_5, qx1_6, qx1_7, qx1_8, qx1_9, qx1_10, qx1_11, qx1_12, qx1_13, qx1_14⟩ := x1.all
    go_wp2_with fail
    ((with_reducible refine (C1.out.of hG hb).mono ?_); rintro e w2 ⟨rfl, hb2⟩)
    clear qx1_0 qx1_1 qx1_2 qx1_3 qx1_4 qx1_5 qx1_6 qx1_7 qx1_8 qx1_9 qx1_10 qx1_11 qx1_12 qx1_13 qx1_14
    replace x1 := x1.below hb2
    replace hb := bto hb hb2
    clear hb2
    obtain ⟨qx1_0, qx1_1, qx1_2, qx1_3, qx1_4, qx1_5, qx1_6, qx1_7, qx1_8, qx1_9, qx1_10, qx1_11, qx1_12, qx1_13, qx1_14⟩ := x1.all
    go_wp2
    go_ret
    exact ⟨reti HV.out.symm, hb⟩
set_option maxHeartbeats 2000000 in
set_option maxRecDepth 100000 in
theorem iFwd (x : Ins) (hx : x.Small) : Ret 193 #[(Value.agg #[Value.string ⟨List.toArray x.id⟩, Value.int .i64 x.kind, Value.string ⟨List.toArray x.cur⟩, Value.int .i64 x.places, Value.int .i64 x.issued, Value.int .i64 x.matures, Value.string ⟨List.toArray x.fn⟩, Value.string ⟨List.toArray x.fd⟩, Value.string ⟨List.toArray x.cn⟩, Value.string ⟨List.toArray x.cd⟩, Value.int .i64 x.months, Value.int .i64 x.count, Value.string ⟨List.toArray x.other⟩, Value.string ⟨List.toArray x.sn⟩, Value.string ⟨List.toArray x.sd⟩])] (.int .i64 (fwdE x)) := fun w hG => by
  have C1 := Lib.hid (iSign (l := x.fn) (l' := x.fd) (Nat.le_trans hx.fn (by decide)) (c := sg x.fn) rfl)
  have C2 := Lib.hid (iSign (l := x.cn) (l' := x.cd) (Nat.le_trans hx.cn (by decide)) (c := sg x.cn) rfl)
  have C3 := Lib.hid (iSign (l := x.sn) (l' := x.sd) (Nat.le_trans hx.sn (by decide)) (c := sg x.sn) rfl)
  have C0 := Lib.hid (iCode (l := x.other) (Nat.le_trans hx.other (by decide)))
  have x1 := IBox.new w x 27
  have hb := below_alloc w (.cells #[Value.string ⟨List.toArray x.id⟩, Value.int .i64 x.kind, Value.string ⟨List.toArray x.cur⟩, Value.int .i64 x.places, Value.int .i64 x.issued, Value.int .i64 x.matures, Value.string ⟨List.toArray x.fn⟩, Value.string ⟨List.toArray x.fd⟩, Value.string ⟨List.toArray x.cn⟩, Value.string ⟨List.toArray x.cd⟩, Value.int .i64 x.months, Value.int .i64 x.count, Value.string ⟨List.toArray x.other⟩, Value.string ⟨List.toArray x.sn⟩, Value.string ⟨List.toArray x.sd⟩] 27)
  by_cases h1 : codeB x.other = true
  · have bh1 := h1
    by_cases h7 : x.other = x.cur
    · have bh7 : (x.other == x.cur) = true := by rw [beq_iff_eq]; exact h7
      have HV : Hid (fwdE x = 12) := by show _ = _; unfold fwdE; rw [if_pos (.inr h7)]
      clear h1 h7
      go_enter Tryz.func193, Tryz.ntmps193
      obtain ⟨qx1_0, qx1_1, qx1_2, qx1_3, qx1_4, qx1_5, qx1_6, qx1_7, qx1_8, qx1_9, qx1_10, qx1_11, qx1_12, qx1_13, qx1_14⟩ := x1.all
      go_wp2_with fail
      ((with_reducible refine (C0.out.of hG hb).mono ?_); rintro e w2 ⟨rfl, hb2⟩)
      clear qx1_0 qx1_1 qx1_2 qx1_3 qx1_4 qx1_5 qx1_6 qx1_7 qx1_8 qx1_9 qx1_10 qx1_11 qx1_12 qx1_13 qx1_14
      replace x1 := x1.below hb2
      replace hb := bto hb hb2
      clear hb2
      obtain ⟨qx1_0, qx1_1, qx1_2, qx1_3, qx1_4, qx1_5, qx1_6, qx1_7, qx1_8, qx1_9, qx1_10, qx1_11, qx1_12, qx1_13, qx1_14⟩ := x1.all
      go_wp2
      go_ret
      exact ⟨reti HV.out.symm, hb⟩
    · have bh7 : (x.other == x.cur) = false := by rw [beq_eq_false_iff_ne]; exact h7
      by_cases h2 : sg x.sn ≤ 0
      · have bh2 : decide (sg x.sn ≤ 0) = true := decide_eq_true h2
        have HV : Hid (fwdE x = 2) := by show _ = _; unfold fwdE; rw [if_neg (fun h => h.elim (fun h => h h1) h7), if_pos h2]
        clear h1 h7
        go_enter Tryz.func193, Tryz.ntmps193
        obtain ⟨qx1_0, qx1_1, qx1_2, qx1_3, qx1_4, qx1_5, qx1_6, qx1_7, qx1_8, qx1_9, qx1_10, qx1_11, qx1_12, qx1_13, qx1_14⟩ := x1.all
        go_wp2_with fail
        ((with_reducible refine (C0.out.of hG hb).mono ?_); rintro e w2 ⟨rfl, hb2⟩)
        clear qx1_0 qx1_1 qx1_2 qx1_3 qx1_4 qx1_5 qx1_6 qx1_7 qx1_8 qx1_9 qx1_10 qx1_11 qx1_12 qx1_13 qx1_14
        replace x1 := x1.below hb2
        replace hb := bto hb hb2
        clear hb2
        obtain ⟨qx1_0, qx1_1, qx1_2, qx1_3, qx1_4, qx1_5, qx1_6, qx1_7, qx1_8, qx1_9, qx1_10, qx1_11, qx1_12, qx1_13, qx1_14⟩ := x1.all
        go_wp2_with fail
        ((with_reducible refine (C3.out.of hG hb).mono ?_); rintro e w3 ⟨rfl, hb3⟩)
        clear qx1_0 qx1_1 qx1_2 qx1_3 qx1_4 qx1_5 qx1_6 qx1_7 qx1_8 qx1_9 qx1_10 qx1_11 qx1_12 qx1_13 qx1_14
        replace x1 := x1.below hb3
        replace hb := bto hb hb3
        clear hb3
        obtain ⟨qx1_0, qx1_1, qx1_2, qx1_3, qx1_4, qx1_5, qx1_6, qx1_7, qx1_8, qx1_9, qx1_10, qx1_11, qx1_12, qx1_13, qx1_14⟩ := x1.all
        go_wp2
        go_ret
        exact ⟨reti HV.out.symm, hb⟩
      · have bh2 : decide (sg x.sn ≤ 0) = false := decide_eq_false h2
        by_cases h3 : sg x.fn = 0
        · have bh3 : (sg x.fn == 0) = true := by rw [beq_iff_eq]; exact h3
          have nh3 := bneq bh3
          by_cases h4 : sg x.cn = 0
          · have bh4 : (sg x.cn == 0) = true := by rw [beq_iff_eq]; exact h4
            have nh4 := bneq bh4
            by_cases h5 : x.months = 0
            · have bh5 : (x.months == 0) = true := by rw [beq_iff_eq]; exact h5
              have nh5 := bneq bh5
              by_cases h6 : x.count = 0
              · have bh6 : (x.count == 0) = true := by rw [beq_iff_eq]; exact h6
                have nh6 := bneq bh6
                have HV : Hid (fwdE x = 0) := by show _ = _; unfold fwdE; rw [if_neg (fun h => h.elim (fun h => h h1) h7), if_neg h2, if_neg (fun h => h.elim (fun h => h h3) (fun h => h.elim (fun h => h h4) (fun h => h.elim (fun h => h h5) (fun h => h h6))))]
                clear h1 h7 h3 h4 h5 h6
                go_enter Tryz.func193, Tryz.ntmps193
                obtain ⟨qx1_0, qx1_1, qx1_2, qx1_3, qx1_4, qx1_5, qx1_6, qx1_7, qx1_8, qx1_9, qx1_10, qx1_11, qx1_12, qx1_13, qx1_14⟩ := x1.all
                go_wp2_with fail
                ((with_reducible refine (C0.out.of hG hb).mono ?_); rintro e w2 ⟨rfl, hb2⟩)
                clear qx1_0 qx1_1 qx1_2 qx1_3 qx1_4 qx1_5 qx1_6 qx1_7 qx1_8 qx1_9 qx1_10 qx1_11 qx1_12 qx1_13 qx1_14
                replace x1 := x1.below hb2
                replace hb := bto hb hb2
                clear hb2
                obtain ⟨qx1_0, qx1_1, qx1_2, qx1_3, qx1_4, qx1_5, qx1_6, qx1_7, qx1_8, qx1_9, qx1_10, qx1_11, qx1_12, qx1_13, qx1_14⟩ := x1.all
                go_wp2_with fail
                ((with_reducible refine (C3.out.of hG hb).mono ?_); rintro e w3 ⟨rfl, hb3⟩)
                clear qx1_0 qx1_1 qx1_2 qx1_3 qx1_4 qx1_5 qx1_6 qx1_7 qx1_8 qx1_9 qx1_10 qx1_11 qx1_12 qx1_13 qx1_14
                replace x1 := x1.below hb3
                replace hb := bto hb hb3
                clear hb3
                obtain ⟨qx1_0, qx1_1, qx1_2, qx1_3, qx1_4, qx1_5, qx1_6, qx1_7, qx1_8, qx1_9, qx1_10, qx1_11, qx1_12, qx1_13, qx1_14⟩ := x1.all
                go_wp2_with fail
                ((with_reducible refine (C1.out.of hG hb).mono ?_); rintro e w4 ⟨rfl, hb4⟩)
                clear qx1_0 qx1_1 qx1_2 qx1_3 qx1_4 qx1_5 qx1_6 qx1_7 qx1_8 qx1_9 qx1_10 qx1_11 qx1_12 qx1_13 qx1_14
                replace x1 := x1.below hb4
                replace hb := bto hb hb4
                clear hb4
                obtain ⟨qx1_0, qx1_1, qx1_2, qx1_3, qx1_4, qx1_5, qx1_6, qx1_7, qx1_8, qx1_9, qx1_10, qx1_11, qx1_12, qx1_13, qx1_14⟩ := x1.all
                go_wp2_with fail
                ((with_reducible refine (C2.out.of hG hb).mono ?_); rintro e w5 ⟨rfl, hb5⟩)
                clear qx1_0 qx1_1 qx1_2 qx1_3 qx1_4 qx1_5 qx1_6 qx1_7 qx1_8 qx1_9 qx1_10 qx1_11 qx1_12 qx1_13 qx1_14
                replace x1 := x1.below hb5
                replace hb := bto hb hb5
                clear hb5
                obtain ⟨qx1_0, qx1_1, qx1_2, qx1_3, qx1_4, qx1_5, qx1_6, qx1_7, qx1_8, qx1_9, qx1_10, qx1_11, qx1_12, qx1_13, qx1_14⟩ := x1.all
                go_wp2
                go_ret
                exact ⟨reti HV.out.symm, hb⟩
              · have bh6 : (x.count == 0) = false := by rw [beq_eq_false_iff_ne]; exact h6
                have nh6 := bneq' bh6
                have HV : Hid (fwdE x = 1) := by show _ = _; unfold fwdE; rw [if_neg (fun h => h.elim (fun h => h h1) h7), if_neg h2, if_pos (.inr (.inr (.inr h6)))]
                clear h1 h7 h3 h4 h5 h6
                go_enter Tryz.func193, Tryz.ntmps193
                obtain ⟨qx1_0, qx1_1, qx1_2, qx1_3, qx1_4, qx1_5, qx1_6, qx1_7, qx1_8, qx1_9, qx1_10, qx1_11, qx1_12, qx1_13, qx1_14⟩ := x1.all
                go_wp2_with fail
                ((with_reducible refine (C0.out.of hG hb).mono ?_); rintro e w2 ⟨rfl, hb2⟩)
                clear qx1_0 qx1_1 qx1_2 qx1_3 qx1_4 qx1_5 qx1_6 qx1_7 qx1_8 qx1_9 qx1_10 qx1_11 qx1_12 qx1_13 qx1_14
                replace x1 := x1.below hb2
                replace hb := bto hb hb2
                clear hb2
                obtain ⟨qx1_0, qx1_1, qx1_2, qx1_3, qx1_4, qx1_5, qx1_6, qx1_7, qx1_8, qx1_9, qx1_10, qx1_11, qx1_12, qx1_13, qx1_14⟩ := x1.all
                go_wp2_with fail
                ((with_reducible refine (C3.out.of hG hb).mono ?_); rintro e w3 ⟨rfl, hb3⟩)
                clear qx1_0 qx1_1 qx1_2 qx1_3 qx1_4 qx1_5 qx1_6 qx1_7 qx1_8 qx1_9 qx1_10 qx1_11 qx1_12 qx1_13 qx1_14
                replace x1 := x1.below hb3
                replace hb := bto hb hb3
                clear hb3
                obtain ⟨qx1_0, qx1_1, qx1_2, qx1_3, qx1_4, qx1_5, qx1_6, qx1_7, qx1_8, qx1_9, qx1_10, qx1_11, qx1_12, qx1_13, qx1_14⟩ := x1.all
                go_wp2_with fail
                ((with_reducible refine (C1.out.of hG hb).mono ?_); rintro e w4 ⟨rfl, hb4⟩)
                clear qx1_0 qx1_1 qx1_2 qx1_3 qx1_4 qx1_5 qx1_6 qx1_7 qx1_8 qx1_9 qx1_10 qx1_11 qx1_12 qx1_13 qx1_14
                replace x1 := x1.below hb4
                replace hb := bto hb hb4
                clear hb4
                obtain ⟨qx1_0, qx1_1, qx1_2, qx1_3, qx1_4, qx1_5, qx1_6, qx1_7, qx1_8, qx1_9, qx1_10, qx1_11, qx1_12, qx1_13, qx1_14⟩ := x1.all
                go_wp2_with fail
                ((with_reducible refine (C2.out.of hG hb).mono ?_); rintro e w5 ⟨rfl, hb5⟩)
                clear qx1_0 qx1_1 qx1_2 qx1_3 qx1_4 qx1_5 qx1_6 qx1_7 qx1_8 qx1_9 qx1_10 qx1_11 qx1_12 qx1_13 qx1_14
                replace x1 := x1.below hb5
                replace hb := bto hb hb5
                clear hb5
                obtain ⟨qx1_0, qx1_1, qx1_2, qx1_3, qx1_4, qx1_5, qx1_6, qx1_7, qx1_8, qx1_9, qx1_10, qx1_11, qx1_12, qx1_13, qx1_14⟩ := x1.all
                go_wp2
                go_ret
                exact ⟨reti HV.out.symm, hb⟩
            · have bh5 : (x.months == 0) = false := by rw [beq_eq_false_iff_ne]; exact h5
              have nh5 := bneq' bh5
              have HV : Hid (fwdE x = 1) := by show _ = _; unfold fwdE; rw [if_neg (fun h => h.elim (fun h => h h1) h7), if_neg h2, if_pos (.inr (.inr (.inl h5)))]
              clear h1 h7 h3 h4 h5
              go_enter Tryz.func193, Tryz.ntmps193
              obtain ⟨qx1_0, qx1_1, qx1_2, qx1_3, qx1_4, qx1_5, qx1_6, qx1_7, qx1_8, qx1_9, qx1_10, qx1_11, qx1_12, qx1_13, qx1_14⟩ := x1.all
              go_wp2_with fail
              ((with_reducible refine (C0.out.of hG hb).mono ?_); rintro e w2 ⟨rfl, hb2⟩)
              clear qx1_0 qx1_1 qx1_2 qx1_3 qx1_4 qx1_5 qx1_6 qx1_7 qx1_8 qx1_9 qx1_10 qx1_11 qx1_12 qx1_13 qx1_14
              replace x1 := x1.below hb2
              replace hb := bto hb hb2
              clear hb2
              obtain ⟨qx1_0, qx1_1, qx1_2, qx1_3, qx1_4, qx1_5, qx1_6, qx1_7, qx1_8, qx1_9, qx1_10, qx1_11, qx1_12, qx1_13, qx1_14⟩ := x1.all
              go_wp2_with fail
              ((with_reducible refine (C3.out.of hG hb).mono ?_); rintro e w3 ⟨rfl, hb3⟩)
              clear qx1_0 qx1_1 qx1_2 qx1_3 qx1_4 qx1_5 qx1_6 qx1_7 qx1_8 qx1_9 qx1_10 qx1_11 qx1_12 qx1_13 qx1_14
              replace x1 := x1.below hb3
              replace hb := bto hb hb3
              clear hb3
              obtain ⟨qx1_0, qx1_1, qx1_2, qx1_3, qx1_4, qx1_5, qx1_6, qx1_7, qx1_8, qx1_9, qx1_10, qx1_11, qx1_12, qx1_13, qx1_14⟩ := x1.all
              go_wp2_with fail
              ((with_reducible refine (C1.out.of hG hb).mono ?_); rintro e w4 ⟨rfl, hb4⟩)
              clear qx1_0 qx1_1 qx1_2 qx1_3 qx1_4 qx1_5 qx1_6 qx1_7 qx1_8 qx1_9 qx1_10 qx1_11 qx1_12 qx1_13 qx1_14
              replace x1 := x1.below hb4
              replace hb := bto hb hb4
              clear hb4
              obtain ⟨qx1_0, qx1_1, qx1_2, qx1_3, qx1_4, qx1_5, qx1_6, qx1_7, qx1_8, qx1_9, qx1_10, qx1_11, qx1_12, qx1_13, qx1_14⟩ := x1.all
              go_wp2_with fail
              ((with_reducible refine (C2.out.of hG hb).mono ?_); rintro e w5 ⟨rfl, hb5⟩)
              clear qx1_0 qx1_1 qx1_2 qx1_3 qx1_4 qx1_5 qx1_6 qx1_7 qx1_8 qx1_9 qx1_10 qx1_11 qx1_12 qx1_13 qx1_14
              replace x1 := x1.below hb5
              replace hb := bto hb hb5
              clear hb5
              obtain ⟨qx1_0, qx1_1, qx1_2, qx1_3, qx1_4, qx1_5, qx1_6, qx1_7, qx1_8, qx1_9, qx1_10, qx1_11, qx1_12, qx1_13, qx1_14⟩ := x1.all
              go_wp2
              go_ret
              exact ⟨reti HV.out.symm, hb⟩
          · have bh4 : (sg x.cn == 0) = false := by rw [beq_eq_false_iff_ne]; exact h4
            have nh4 := bneq' bh4
            have HV : Hid (fwdE x = 1) := by show _ = _; unfold fwdE; rw [if_neg (fun h => h.elim (fun h => h h1) h7), if_neg h2, if_pos (.inr (.inl h4))]
            clear h1 h7 h3 h4
            go_enter Tryz.func193, Tryz.ntmps193
            obtain ⟨qx1_0, qx1_1, qx1_2, qx1_3, qx1_4, qx1_5, qx1_6, qx1_7, qx1_8, qx1_9, qx1_10, qx1_11, qx1_12, qx1_13, qx1_14⟩ := x1.all
            go_wp2_with fail
            ((with_reducible refine (C0.out.of hG hb).mono ?_); rintro e w2 ⟨rfl, hb2⟩)
            clear qx1_0 qx1_1 qx1_2 qx1_3 qx1_4 qx1_5 qx1_6 qx1_7 qx1_8 qx1_9 qx1_10 qx1_11 qx1_12 qx1_13 qx1_14
            replace x1 := x1.below hb2
            replace hb := bto hb hb2
            clear hb2
            obtain ⟨qx1_0, qx1_1, qx1_2, qx1_3, qx1_4, qx1_5, qx1_6, qx1_7, qx1_8, qx1_9, qx1_10, qx1_11, qx1_12, qx1_13, qx1_14⟩ := x1.all
            go_wp2_with fail
            ((with_reducible refine (C3.out.of hG hb).mono ?_); rintro e w3 ⟨rfl, hb3⟩)
            clear qx1_0 qx1_1 qx1_2 qx1_3 qx1_4 qx1_5 qx1_6 qx1_7 qx1_8 qx1_9 qx1_10 qx1_11 qx1_12 qx1_13 qx1_14
            replace x1 := x1.below hb3
            replace hb := bto hb hb3
            clear hb3
            obtain ⟨qx1_0, qx1_1, qx1_2, qx1_3, qx1_4, qx1_5, qx1_6, qx1_7, qx1_8, qx1_9, qx1_10, qx1_11, qx1_12, qx1_13, qx1_14⟩ := x1.all
            go_wp2_with fail
            ((with_reducible refine (C1.out.of hG hb).mono ?_); rintro e w4 ⟨rfl, hb4⟩)
            clear qx1_0 qx1_1 qx1_2 qx1_3 qx1_4 qx1_5 qx1_6 qx1_7 qx1_8 qx1_9 qx1_10 qx1_11 qx1_12 qx1_13 qx1_14
            replace x1 := x1.below hb4
            replace hb := bto hb hb4
            clear hb4
            obtain ⟨qx1_0, qx1_1, qx1_2, qx1_3, qx1_4, qx1_5, qx1_6, qx1_7, qx1_8, qx1_9, qx1_10, qx1_11, qx1_12, qx1_13, qx1_14⟩ := x1.all
            go_wp2_with fail
            ((with_reducible refine (C2.out.of hG hb).mono ?_); rintro e w5 ⟨rfl, hb5⟩)
            clear qx1_0 qx1_1 qx1_2 qx1_3 qx1_4 qx1_5 qx1_6 qx1_7 qx1_8 qx1_9 qx1_10 qx1_11 qx1_12 qx1_13 qx1_14
            replace x1 := x1.below hb5
            replace hb := bto hb hb5
            clear hb5
            obtain ⟨qx1_0, qx1_1, qx1_2, qx1_3, qx1_4, qx1_5, qx1_6, qx1_7, qx1_8, qx1_9, qx1_10, qx1_11, qx1_12, qx1_13, qx1_14⟩ := x1.all
            go_wp2
            go_ret
            exact ⟨reti HV.out.symm, hb⟩
        · have bh3 : (sg x.fn == 0) = false := by rw [beq_eq_false_iff_ne]; exact h3
          have nh3 := bneq' bh3
          have HV : Hid (fwdE x = 1) := by show _ = _; unfold fwdE; rw [if_neg (fun h => h.elim (fun h => h h1) h7), if_neg h2, if_pos (.inl h3)]
          clear h1 h7 h3
          go_enter Tryz.func193, Tryz.ntmps193
          obtain ⟨qx1_0, qx1_1, qx1_2, qx1_3, qx1_4, qx1_5, qx1_6, qx1_7, qx1_8, qx1_9, qx1_10, qx1_11, qx1_12, qx1_13, qx1_14⟩ := x1.all
          go_wp2_with fail
          ((with_reducible refine (C0.out.of hG hb).mono ?_); rintro e w2 ⟨rfl, hb2⟩)
          clear qx1_0 qx1_1 qx1_2 qx1_3 qx1_4 qx1_5 qx1_6 qx1_7 qx1_8 qx1_9 qx1_10 qx1_11 qx1_12 qx1_13 qx1_14
          replace x1 := x1.below hb2
          replace hb := bto hb hb2
          clear hb2
          obtain ⟨qx1_0, qx1_1, qx1_2, qx1_3, qx1_4, qx1_5, qx1_6, qx1_7, qx1_8, qx1_9, qx1_10, qx1_11, qx1_12, qx1_13, qx1_14⟩ := x1.all
          go_wp2_with fail
          ((with_reducible refine (C3.out.of hG hb).mono ?_); rintro e w3 ⟨rfl, hb3⟩)
          clear qx1_0 qx1_1 qx1_2 qx1_3 qx1_4 qx1_5 qx1_6 qx1_7 qx1_8 qx1_9 qx1_10 qx1_11 qx1_12 qx1_13 qx1_14
          replace x1 := x1.below hb3
          replace hb := bto hb hb3
          clear hb3
          obtain ⟨qx1_0, qx1_1, qx1_2, qx1_3, qx1_4, qx1_5, qx1_6, qx1_7, qx1_8, qx1_9, qx1_10, qx1_11, qx1_12, qx1_13, qx1_14⟩ := x1.all
          go_wp2_with fail
          ((with_reducible refine (C1.out.of hG hb).mono ?_); rintro e w4 ⟨rfl, hb4⟩)
          clear qx1_0 qx1_1 qx1_2 qx1_3 qx1_4 qx1_5 qx1_6 qx1_7 qx1_8 qx1_9 qx1_10 qx1_11 qx1_12 qx1_13 qx1_14
          replace x1 := x1.below hb4
          replace hb := bto hb hb4
          clear hb4
          obtain ⟨qx1_0, qx1_1, qx1_2, qx1_3, qx1_4, qx1_5, qx1_6, qx1_7, qx1_8, qx1_9, qx1_10, qx1_11, qx1_12, qx1_13, qx1_14⟩ := x1.all
          go_wp2
          go_ret
          exact ⟨reti HV.out.symm, hb⟩
  · have bh1 : codeB x.other = false := not_true_b h1
    have HV : Hid (fwdE x = 12) := by show _ = _; unfold fwdE; rw [if_pos (.inl h1)]
    clear h1
    go_enter Tryz.func193, Tryz.ntmps193
    obtain ⟨qx1_0, qx1_1, qx1_2, qx1_3, qx1_4, qx1_5, qx1_6, qx1_7, qx1_8, qx1_9, qx1_10, qx1_11, qx1_12, qx1_13, qx1_14⟩ := x1.all
    go_wp2_with fail
    ((with_reducible refine (C0.out.of hG hb).mono ?_); rintro e w2 ⟨rfl, hb2⟩)
    clear qx1_0 qx1_1 qx1_2 qx1_3 qx1_4 qx1_5 qx1_6 qx1_7 qx1_8 qx1_9 qx1_10 qx1_11 qx1_12 qx1_13 qx1_14
    replace x1 := x1.below hb2
    replace hb := bto hb hb2
    clear hb2
    obtain ⟨qx1_0, qx1_1, qx1_2, qx1_3, qx1_4, qx1_5, qx1_6, qx1_7, qx1_8, qx1_9, qx1_10, qx1_11, qx1_12, qx1_13, qx1_14⟩ := x1.all
    go_wp2
    go_ret
    exact ⟨reti HV.out.symm, hb⟩
set_option maxHeartbeats 2000000 in
set_option maxRecDepth 100000 in
theorem iBond (x : Ins) (hx : x.Small) : Ret 192 #[(Value.agg #[Value.string ⟨List.toArray x.id⟩, Value.int .i64 x.kind, Value.string ⟨List.toArray x.cur⟩, Value.int .i64 x.places, Value.int .i64 x.issued, Value.int .i64 x.matures, Value.string ⟨List.toArray x.fn⟩, Value.string ⟨List.toArray x.fd⟩, Value.string ⟨List.toArray x.cn⟩, Value.string ⟨List.toArray x.cd⟩, Value.int .i64 x.months, Value.int .i64 x.count, Value.string ⟨List.toArray x.other⟩, Value.string ⟨List.toArray x.sn⟩, Value.string ⟨List.toArray x.sd⟩])] (.int .i64 (bondE x)) := fun w hG => by
  have C1 := Lib.hid (iSign (l := x.fn) (l' := x.fd) (Nat.le_trans hx.fn (by decide)) (c := sg x.fn) rfl)
  have C2 := Lib.hid (iSign (l := x.cn) (l' := x.cd) (Nat.le_trans hx.cn (by decide)) (c := sg x.cn) rfl)
  have C3 := Lib.hid (iSign (l := x.sn) (l' := x.sd) (Nat.le_trans hx.sn (by decide)) (c := sg x.sn) rfl)
  have x1 := (IBox.new w x 27).below (below_alloc _ (.cells #[.int .i64 1, .int .i64 2, .int .i64 3, .int .i64 4, .int .i64 6, .int .i64 12] 214))
  have x3 := Blk.new (w.alloc (.cells #[Value.string ⟨List.toArray x.id⟩, Value.int .i64 x.kind, Value.string ⟨List.toArray x.cur⟩, Value.int .i64 x.places, Value.int .i64 x.issued, Value.int .i64 x.matures, Value.string ⟨List.toArray x.fn⟩, Value.string ⟨List.toArray x.fd⟩, Value.string ⟨List.toArray x.cn⟩, Value.string ⟨List.toArray x.cd⟩, Value.int .i64 x.months, Value.int .i64 x.count, Value.string ⟨List.toArray x.other⟩, Value.string ⟨List.toArray x.sn⟩, Value.string ⟨List.toArray x.sd⟩] 27)) #[.int .i64 1, .int .i64 2, .int .i64 3, .int .i64 4, .int .i64 6, .int .i64 12] 214
  rw [World.size_alloc] at x3
  have hb := bto (below_alloc w (.cells #[Value.string ⟨List.toArray x.id⟩, Value.int .i64 x.kind, Value.string ⟨List.toArray x.cur⟩, Value.int .i64 x.places, Value.int .i64 x.issued, Value.int .i64 x.matures, Value.string ⟨List.toArray x.fn⟩, Value.string ⟨List.toArray x.fd⟩, Value.string ⟨List.toArray x.cn⟩, Value.string ⟨List.toArray x.cd⟩, Value.int .i64 x.months, Value.int .i64 x.count, Value.string ⟨List.toArray x.other⟩, Value.string ⟨List.toArray x.sn⟩, Value.string ⟨List.toArray x.sd⟩] 27)) (below_alloc _ (.cells #[.int .i64 1, .int .i64 2, .int .i64 3, .int .i64 4, .int .i64 6, .int .i64 12] 214))
  by_cases h1 : sg x.fn ≤ 0
  · have bh1 : decide (sg x.fn ≤ 0) = true := decide_eq_true h1
    have HV : Hid (bondE x = 2) := by show _ = _; unfold bondE; rw [if_pos (.inl h1)]
    skip
    go_enter Tryz.func192, Tryz.ntmps192
    go_wp2_with fail
    refine wp_region_kept (by kernel_rfl) (by kernel_rfl) ?_
    refine kept_val _ (fun _ => rfl) (fun ρ w hw => by go_simp; first | done | with_reducible rfl) ?_
    simp only [Act.put, List.setIfInBounds_toArray, List.set_cons_zero, List.set_cons_succ, Nat.reduceAdd]
    refine kept_val _ (fun _ => rfl) (fun ρ w hw => by have q6 := (x1.below hw).c6; have q7 := (x1.below hw).c7; go_simp; first | done | with_reducible rfl) ?_
    simp only [Act.put, List.setIfInBounds_toArray, List.set_cons_zero, List.set_cons_succ, Nat.reduceAdd]
    refine kept_call _ _ _ (fun _ => rfl) (fun ρ w hw => by go_simp; first | done | with_reducible rfl) (fun w hw => C1.out.of hG (bto hb hw)) ?_
    iterate 2
      simp only [Act.put, List.setIfInBounds_toArray, List.set_cons_zero, List.set_cons_succ, Nat.reduceAdd]
      refine kept_val _ (fun _ => rfl) (fun ρ w hw => by go_simp; first | done | with_reducible rfl) ?_
    iterate 4
      simp only [Act.put, List.setIfInBounds_toArray, List.set_cons_zero, List.set_cons_succ, Nat.reduceAdd]
      refine kept_off (fun _ => rfl) ?_
    iterate 2
      simp only [Act.put, List.setIfInBounds_toArray, List.set_cons_zero, List.set_cons_succ, Nat.reduceAdd]
      refine kept_val _ (fun _ => rfl) (fun ρ w hw => by go_simp; first | done | with_reducible rfl) ?_
    iterate 5
      simp only [Act.put, List.setIfInBounds_toArray, List.set_cons_zero, List.set_cons_succ, Nat.reduceAdd]
      refine kept_off (fun _ => rfl) ?_
    iterate 2
      simp only [Act.put, List.setIfInBounds_toArray, List.set_cons_zero, List.set_cons_succ, Nat.reduceAdd]
      refine kept_val _ (fun _ => rfl) (fun ρ w hw => by go_simp; first | done | with_reducible rfl) ?_
    iterate 3
      simp only [Act.put, List.setIfInBounds_toArray, List.set_cons_zero, List.set_cons_succ, Nat.reduceAdd]
      refine kept_off (fun _ => rfl) ?_
    iterate 2
      simp only [Act.put, List.setIfInBounds_toArray, List.set_cons_zero, List.set_cons_succ, Nat.reduceAdd]
      refine kept_val _ (fun _ => rfl) (fun ρ w hw => by go_simp; first | done | with_reducible rfl) ?_
    iterate 3
      simp only [Act.put, List.setIfInBounds_toArray, List.set_cons_zero, List.set_cons_succ, Nat.reduceAdd]
      refine kept_off (fun _ => rfl) ?_
    iterate 2
      simp only [Act.put, List.setIfInBounds_toArray, List.set_cons_zero, List.set_cons_succ, Nat.reduceAdd]
      refine kept_val _ (fun _ => rfl) (fun ρ w hw => by go_simp; first | done | with_reducible rfl) ?_
    simp only [Act.put, List.setIfInBounds_toArray, List.set_cons_zero, List.set_cons_succ, Nat.reduceAdd]
    refine kept_end (fun ρ w2 hF => ?_)
    replace x1 := x1.below hF.below
    replace x3 := x3.below hF.below
    replace hb := bto hb hF.below
    clear hF
    obtain ⟨qx1_0, qx1_1, qx1_2, qx1_3, qx1_4, qx1_5, qx1_6, qx1_7, qx1_8, qx1_9, qx1_10, qx1_11, qx1_12, qx1_13, qx1_14⟩ := x1.all
    go_wp2
    go_ret
    exact ⟨reti HV.out.symm, hb⟩
  · have bh1 : decide (sg x.fn ≤ 0) = false := decide_eq_false h1
    by_cases h2 : sg x.cn < 0
    · have bh2 : decide (sg x.cn < 0) = true := decide_eq_true h2
      have HV : Hid (bondE x = 2) := by show _ = _; unfold bondE; rw [if_pos (.inr (.inl h2))]
      skip
      go_enter Tryz.func192, Tryz.ntmps192
      go_wp2_with fail
      refine wp_region_kept (by kernel_rfl) (by kernel_rfl) ?_
      refine kept_val _ (fun _ => rfl) (fun ρ w hw => by go_simp; first | done | with_reducible rfl) ?_
      simp only [Act.put, List.setIfInBounds_toArray, List.set_cons_zero, List.set_cons_succ, Nat.reduceAdd]
      refine kept_val _ (fun _ => rfl) (fun ρ w hw => by have q6 := (x1.below hw).c6; have q7 := (x1.below hw).c7; go_simp; first | done | with_reducible rfl) ?_
      simp only [Act.put, List.setIfInBounds_toArray, List.set_cons_zero, List.set_cons_succ, Nat.reduceAdd]
      refine kept_call _ _ _ (fun _ => rfl) (fun ρ w hw => by go_simp; first | done | with_reducible rfl) (fun w hw => C1.out.of hG (bto hb hw)) ?_
      iterate 3
        simp only [Act.put, List.setIfInBounds_toArray, List.set_cons_zero, List.set_cons_succ, Nat.reduceAdd]
        refine kept_val _ (fun _ => rfl) (fun ρ w hw => by go_simp; first | done | with_reducible rfl) ?_
      simp only [Act.put, List.setIfInBounds_toArray, List.set_cons_zero, List.set_cons_succ, Nat.reduceAdd]
      refine kept_val _ (fun _ => rfl) (fun ρ w hw => by have q8 := (x1.below hw).c8; have q9 := (x1.below hw).c9; go_simp; first | done | with_reducible rfl) ?_
      simp only [Act.put, List.setIfInBounds_toArray, List.set_cons_zero, List.set_cons_succ, Nat.reduceAdd]
      refine kept_call _ _ _ (fun _ => rfl) (fun ρ w hw => by go_simp; first | done | with_reducible rfl) (fun w hw => C2.out.of hG (bto hb hw)) ?_
      iterate 3
        simp only [Act.put, List.setIfInBounds_toArray, List.set_cons_zero, List.set_cons_succ, Nat.reduceAdd]
        refine kept_val _ (fun _ => rfl) (fun ρ w hw => by go_simp; first | done | with_reducible rfl) ?_
      iterate 5
        simp only [Act.put, List.setIfInBounds_toArray, List.set_cons_zero, List.set_cons_succ, Nat.reduceAdd]
        refine kept_off (fun _ => rfl) ?_
      iterate 2
        simp only [Act.put, List.setIfInBounds_toArray, List.set_cons_zero, List.set_cons_succ, Nat.reduceAdd]
        refine kept_val _ (fun _ => rfl) (fun ρ w hw => by go_simp; first | done | with_reducible rfl) ?_
      iterate 3
        simp only [Act.put, List.setIfInBounds_toArray, List.set_cons_zero, List.set_cons_succ, Nat.reduceAdd]
        refine kept_off (fun _ => rfl) ?_
      iterate 2
        simp only [Act.put, List.setIfInBounds_toArray, List.set_cons_zero, List.set_cons_succ, Nat.reduceAdd]
        refine kept_val _ (fun _ => rfl) (fun ρ w hw => by go_simp; first | done | with_reducible rfl) ?_
      iterate 3
        simp only [Act.put, List.setIfInBounds_toArray, List.set_cons_zero, List.set_cons_succ, Nat.reduceAdd]
        refine kept_off (fun _ => rfl) ?_
      iterate 2
        simp only [Act.put, List.setIfInBounds_toArray, List.set_cons_zero, List.set_cons_succ, Nat.reduceAdd]
        refine kept_val _ (fun _ => rfl) (fun ρ w hw => by go_simp; first | done | with_reducible rfl) ?_
      simp only [Act.put, List.setIfInBounds_toArray, List.set_cons_zero, List.set_cons_succ, Nat.reduceAdd]
      refine kept_end (fun ρ w2 hF => ?_)
      replace x1 := x1.below hF.below
      replace x3 := x3.below hF.below
      replace hb := bto hb hF.below
      clear hF
      obtain ⟨qx1_0, qx1_1, qx1_2, qx1_3, qx1_4, qx1_5, qx1_6, qx1_7, qx1_8, qx1_9, qx1_10, qx1_11, qx1_12, qx1_13, qx1_14⟩ := x1.all
      go_wp2
      go_ret
      exact ⟨reti HV.out.symm, hb⟩
    · have bh2 : decide (sg x.cn < 0) = false := decide_eq_false h2
      by_cases h3 : monthsB x.months = true
      · have bh3 := h3
        by_cases h4 : x.count < 1
        · have bh4 : decide (x.count < 1) = true := decide_eq_true h4
          have HV : Hid (bondE x = 2) := by show _ = _; unfold bondE; rw [if_pos (.inr (.inr (.inr (.inl h4))))]
          clear h3
          go_enter Tryz.func192, Tryz.ntmps192
          go_wp2_with fail
          refine wp_region_kept (by kernel_rfl) (by kernel_rfl) ?_
          refine kept_val _ (fun _ => rfl) (fun ρ w hw => by go_simp; first | done | with_reducible rfl) ?_
          simp only [Act.put, List.setIfInBounds_toArray, List.set_cons_zero, List.set_cons_succ, Nat.reduceAdd]
          refine kept_val _ (fun _ => rfl) (fun ρ w hw => by have q6 := (x1.below hw).c6; have q7 := (x1.below hw).c7; go_simp; first | done | with_reducible rfl) ?_
          simp only [Act.put, List.setIfInBounds_toArray, List.set_cons_zero, List.set_cons_succ, Nat.reduceAdd]
          refine kept_call _ _ _ (fun _ => rfl) (fun ρ w hw => by go_simp; first | done | with_reducible rfl) (fun w hw => C1.out.of hG (bto hb hw)) ?_
          iterate 3
            simp only [Act.put, List.setIfInBounds_toArray, List.set_cons_zero, List.set_cons_succ, Nat.reduceAdd]
            refine kept_val _ (fun _ => rfl) (fun ρ w hw => by go_simp; first | done | with_reducible rfl) ?_
          simp only [Act.put, List.setIfInBounds_toArray, List.set_cons_zero, List.set_cons_succ, Nat.reduceAdd]
          refine kept_val _ (fun _ => rfl) (fun ρ w hw => by have q8 := (x1.below hw).c8; have q9 := (x1.below hw).c9; go_simp; first | done | with_reducible rfl) ?_
          simp only [Act.put, List.setIfInBounds_toArray, List.set_cons_zero, List.set_cons_succ, Nat.reduceAdd]
          refine kept_call _ _ _ (fun _ => rfl) (fun ρ w hw => by go_simp; first | done | with_reducible rfl) (fun w hw => C2.out.of hG (bto hb hw)) ?_
          iterate 5
            simp only [Act.put, List.setIfInBounds_toArray, List.set_cons_zero, List.set_cons_succ, Nat.reduceAdd]
            refine kept_val _ (fun _ => rfl) (fun ρ w hw => by go_simp; first | done | with_reducible rfl) ?_
          simp only [Act.put, List.setIfInBounds_toArray, List.set_cons_zero, List.set_cons_succ, Nat.reduceAdd]
          refine kept_val _ (fun _ => rfl) (fun ρ w hw => by have q10 := (x1.below hw).c10; go_simp; first | done | with_reducible rfl) ?_
          simp only [Act.put, List.setIfInBounds_toArray, List.set_cons_zero, List.set_cons_succ, Nat.reduceAdd]
          refine kept_call _ _ _ (fun _ => rfl) (fun ρ w hw => by go_simp; first | done | with_reducible rfl) (fun w hw => iContains x.months _ _ (x3.below hw)) ?_
          iterate 4
            simp only [Act.put, List.setIfInBounds_toArray, List.set_cons_zero, List.set_cons_succ, Nat.reduceAdd]
            refine kept_val _ (fun _ => rfl) (fun ρ w hw => by go_simp; first | done | with_reducible rfl) ?_
          simp only [Act.put, List.setIfInBounds_toArray, List.set_cons_zero, List.set_cons_succ, Nat.reduceAdd]
          refine kept_val _ (fun _ => rfl) (fun ρ w hw => by have q11 := (x1.below hw).c11; go_simp; first | done | with_reducible rfl) ?_
          iterate 3
            simp only [Act.put, List.setIfInBounds_toArray, List.set_cons_zero, List.set_cons_succ, Nat.reduceAdd]
            refine kept_val _ (fun _ => rfl) (fun ρ w hw => by go_simp; first | done | with_reducible rfl) ?_
          iterate 3
            simp only [Act.put, List.setIfInBounds_toArray, List.set_cons_zero, List.set_cons_succ, Nat.reduceAdd]
            refine kept_off (fun _ => rfl) ?_
          iterate 2
            simp only [Act.put, List.setIfInBounds_toArray, List.set_cons_zero, List.set_cons_succ, Nat.reduceAdd]
            refine kept_val _ (fun _ => rfl) (fun ρ w hw => by go_simp; first | done | with_reducible rfl) ?_
          simp only [Act.put, List.setIfInBounds_toArray, List.set_cons_zero, List.set_cons_succ, Nat.reduceAdd]
          refine kept_end (fun ρ w2 hF => ?_)
          replace x1 := x1.below hF.below
          replace x3 := x3.below hF.below
          replace hb := bto hb hF.below
          clear hF
          obtain ⟨qx1_0, qx1_1, qx1_2, qx1_3, qx1_4, qx1_5, qx1_6, qx1_7, qx1_8, qx1_9, qx1_10, qx1_11, qx1_12, qx1_13, qx1_14⟩ := x1.all
          go_wp2
          go_ret
          exact ⟨reti HV.out.symm, hb⟩
        · have bh4 : decide (x.count < 1) = false := decide_eq_false h4
          by_cases h5 : 5 < x.count
          · have bh5 : decide (5 < x.count) = true := decide_eq_true h5
            have HV : Hid (bondE x = 2) := by show _ = _; unfold bondE; rw [if_pos (.inr (.inr (.inr (.inr h5))))]
            clear h3
            go_enter Tryz.func192, Tryz.ntmps192
            go_wp2_with fail
            refine wp_region_kept (by kernel_rfl) (by kernel_rfl) ?_
            refine kept_val _ (fun _ => rfl) (fun ρ w hw => by go_simp; first | done | with_reducible rfl) ?_
            simp only [Act.put, List.setIfInBounds_toArray, List.set_cons_zero, List.set_cons_succ, Nat.reduceAdd]
            refine kept_val _ (fun _ => rfl) (fun ρ w hw => by have q6 := (x1.below hw).c6; have q7 := (x1.below hw).c7; go_simp; first | done | with_reducible rfl) ?_
            simp only [Act.put, List.setIfInBounds_toArray, List.set_cons_zero, List.set_cons_succ, Nat.reduceAdd]
            refine kept_call _ _ _ (fun _ => rfl) (fun ρ w hw => by go_simp; first | done | with_reducible rfl) (fun w hw => C1.out.of hG (bto hb hw)) ?_
            iterate 3
              simp only [Act.put, List.setIfInBounds_toArray, List.set_cons_zero, List.set_cons_succ, Nat.reduceAdd]
              refine kept_val _ (fun _ => rfl) (fun ρ w hw => by go_simp; first | done | with_reducible rfl) ?_
            simp only [Act.put, List.setIfInBounds_toArray, List.set_cons_zero, List.set_cons_succ, Nat.reduceAdd]
            refine kept_val _ (fun _ => rfl) (fun ρ w hw => by have q8 := (x1.below hw).c8; have q9 := (x1.below hw).c9; go_simp; first | done | with_reducible rfl) ?_
            simp only [Act.put, List.setIfInBounds_toArray, List.set_cons_zero, List.set_cons_succ, Nat.reduceAdd]
            refine kept_call _ _ _ (fun _ => rfl) (fun ρ w hw => by go_simp; first | done | with_reducible rfl) (fun w hw => C2.out.of hG (bto hb hw)) ?_
            iterate 5
              simp only [Act.put, List.setIfInBounds_toArray, List.set_cons_zero, List.set_cons_succ, Nat.reduceAdd]
              refine kept_val _ (fun _ => rfl) (fun ρ w hw => by go_simp; first | done | with_reducible rfl) ?_
            simp only [Act.put, List.setIfInBounds_toArray, List.set_cons_zero, List.set_cons_succ, Nat.reduceAdd]
            refine kept_val _ (fun _ => rfl) (fun ρ w hw => by have q10 := (x1.below hw).c10; go_simp; first | done | with_reducible rfl) ?_
            simp only [Act.put, List.setIfInBounds_toArray, List.set_cons_zero, List.set_cons_succ, Nat.reduceAdd]
            refine kept_call _ _ _ (fun _ => rfl) (fun ρ w hw => by go_simp; first | done | with_reducible rfl) (fun w hw => iContains x.months _ _ (x3.below hw)) ?_
            iterate 4
              simp only [Act.put, List.setIfInBounds_toArray, List.set_cons_zero, List.set_cons_succ, Nat.reduceAdd]
              refine kept_val _ (fun _ => rfl) (fun ρ w hw => by go_simp; first | done | with_reducible rfl) ?_
            simp only [Act.put, List.setIfInBounds_toArray, List.set_cons_zero, List.set_cons_succ, Nat.reduceAdd]
            refine kept_val _ (fun _ => rfl) (fun ρ w hw => by have q11 := (x1.below hw).c11; go_simp; first | done | with_reducible rfl) ?_
            iterate 4
              simp only [Act.put, List.setIfInBounds_toArray, List.set_cons_zero, List.set_cons_succ, Nat.reduceAdd]
              refine kept_val _ (fun _ => rfl) (fun ρ w hw => by go_simp; first | done | with_reducible rfl) ?_
            simp only [Act.put, List.setIfInBounds_toArray, List.set_cons_zero, List.set_cons_succ, Nat.reduceAdd]
            refine kept_val _ (fun _ => rfl) (fun ρ w hw => by have q11 := (x1.below hw).c11; go_simp; first | done | with_reducible rfl) ?_
            iterate 3
              simp only [Act.put, List.setIfInBounds_toArray, List.set_cons_zero, List.set_cons_succ, Nat.reduceAdd]
              refine kept_val _ (fun _ => rfl) (fun ρ w hw => by go_simp; first | done | with_reducible rfl) ?_
            simp only [Act.put, List.setIfInBounds_toArray, List.set_cons_zero, List.set_cons_succ, Nat.reduceAdd]
            refine kept_end (fun ρ w2 hF => ?_)
            replace x1 := x1.below hF.below
            replace x3 := x3.below hF.below
            replace hb := bto hb hF.below
            clear hF
            obtain ⟨qx1_0, qx1_1, qx1_2, qx1_3, qx1_4, qx1_5, qx1_6, qx1_7, qx1_8, qx1_9, qx1_10, qx1_11, qx1_12, qx1_13, qx1_14⟩ := x1.all
            go_wp2
            go_ret
            exact ⟨reti HV.out.symm, hb⟩
          · have bh5 : decide (5 < x.count) = false := decide_eq_false h5
            by_cases h6 : x.other = []
            · have bh6 : (x.other == []) = true := by rw [beq_iff_eq]; exact h6
              have eh6 : (x.other).isEmpty = true := by rw [List.isEmpty_iff]; exact h6
              by_cases h7 : sg x.sn = 0
              · have bh7 : (sg x.sn == 0) = true := by rw [beq_iff_eq]; exact h7
                have nh7 := bneq bh7
                have HV : Hid (bondE x = 0) := by show _ = _; unfold bondE; rw [if_neg (fun h => h.elim h1 (fun h => h.elim h2 (fun h => h.elim (fun h => h h3) (fun h => h.elim h4 h5)))), if_neg (fun h => h.elim (fun h => h h6) (fun h => h h7))]
                clear h3 h6 h7
                go_enter Tryz.func192, Tryz.ntmps192
                go_wp2_with fail
                refine wp_region_kept (by kernel_rfl) (by kernel_rfl) ?_
                refine kept_val _ (fun _ => rfl) (fun ρ w hw => by go_simp; first | done | with_reducible rfl) ?_
                simp only [Act.put, List.setIfInBounds_toArray, List.set_cons_zero, List.set_cons_succ, Nat.reduceAdd]
                refine kept_val _ (fun _ => rfl) (fun ρ w hw => by have q6 := (x1.below hw).c6; have q7 := (x1.below hw).c7; go_simp; first | done | with_reducible rfl) ?_
                simp only [Act.put, List.setIfInBounds_toArray, List.set_cons_zero, List.set_cons_succ, Nat.reduceAdd]
                refine kept_call _ _ _ (fun _ => rfl) (fun ρ w hw => by go_simp; first | done | with_reducible rfl) (fun w hw => C1.out.of hG (bto hb hw)) ?_
                iterate 3
                  simp only [Act.put, List.setIfInBounds_toArray, List.set_cons_zero, List.set_cons_succ, Nat.reduceAdd]
                  refine kept_val _ (fun _ => rfl) (fun ρ w hw => by go_simp; first | done | with_reducible rfl) ?_
                simp only [Act.put, List.setIfInBounds_toArray, List.set_cons_zero, List.set_cons_succ, Nat.reduceAdd]
                refine kept_val _ (fun _ => rfl) (fun ρ w hw => by have q8 := (x1.below hw).c8; have q9 := (x1.below hw).c9; go_simp; first | done | with_reducible rfl) ?_
                simp only [Act.put, List.setIfInBounds_toArray, List.set_cons_zero, List.set_cons_succ, Nat.reduceAdd]
                refine kept_call _ _ _ (fun _ => rfl) (fun ρ w hw => by go_simp; first | done | with_reducible rfl) (fun w hw => C2.out.of hG (bto hb hw)) ?_
                iterate 5
                  simp only [Act.put, List.setIfInBounds_toArray, List.set_cons_zero, List.set_cons_succ, Nat.reduceAdd]
                  refine kept_val _ (fun _ => rfl) (fun ρ w hw => by go_simp; first | done | with_reducible rfl) ?_
                simp only [Act.put, List.setIfInBounds_toArray, List.set_cons_zero, List.set_cons_succ, Nat.reduceAdd]
                refine kept_val _ (fun _ => rfl) (fun ρ w hw => by have q10 := (x1.below hw).c10; go_simp; first | done | with_reducible rfl) ?_
                simp only [Act.put, List.setIfInBounds_toArray, List.set_cons_zero, List.set_cons_succ, Nat.reduceAdd]
                refine kept_call _ _ _ (fun _ => rfl) (fun ρ w hw => by go_simp; first | done | with_reducible rfl) (fun w hw => iContains x.months _ _ (x3.below hw)) ?_
                iterate 4
                  simp only [Act.put, List.setIfInBounds_toArray, List.set_cons_zero, List.set_cons_succ, Nat.reduceAdd]
                  refine kept_val _ (fun _ => rfl) (fun ρ w hw => by go_simp; first | done | with_reducible rfl) ?_
                simp only [Act.put, List.setIfInBounds_toArray, List.set_cons_zero, List.set_cons_succ, Nat.reduceAdd]
                refine kept_val _ (fun _ => rfl) (fun ρ w hw => by have q11 := (x1.below hw).c11; go_simp; first | done | with_reducible rfl) ?_
                iterate 4
                  simp only [Act.put, List.setIfInBounds_toArray, List.set_cons_zero, List.set_cons_succ, Nat.reduceAdd]
                  refine kept_val _ (fun _ => rfl) (fun ρ w hw => by go_simp; first | done | with_reducible rfl) ?_
                simp only [Act.put, List.setIfInBounds_toArray, List.set_cons_zero, List.set_cons_succ, Nat.reduceAdd]
                refine kept_val _ (fun _ => rfl) (fun ρ w hw => by have q11 := (x1.below hw).c11; go_simp; first | done | with_reducible rfl) ?_
                iterate 3
                  simp only [Act.put, List.setIfInBounds_toArray, List.set_cons_zero, List.set_cons_succ, Nat.reduceAdd]
                  refine kept_val _ (fun _ => rfl) (fun ρ w hw => by go_simp; first | done | with_reducible rfl) ?_
                simp only [Act.put, List.setIfInBounds_toArray, List.set_cons_zero, List.set_cons_succ, Nat.reduceAdd]
                refine kept_end (fun ρ w2 hF => ?_)
                replace x1 := x1.below hF.below
                replace x3 := x3.below hF.below
                replace hb := bto hb hF.below
                clear hF
                obtain ⟨qx1_0, qx1_1, qx1_2, qx1_3, qx1_4, qx1_5, qx1_6, qx1_7, qx1_8, qx1_9, qx1_10, qx1_11, qx1_12, qx1_13, qx1_14⟩ := x1.all
                go_wp2_with fail
                ((with_reducible refine (C3.out.of hG hb).mono ?_); rintro e w3 ⟨rfl, hb3⟩)
                clear qx1_0 qx1_1 qx1_2 qx1_3 qx1_4 qx1_5 qx1_6 qx1_7 qx1_8 qx1_9 qx1_10 qx1_11 qx1_12 qx1_13 qx1_14
                replace x1 := x1.below hb3
                replace x3 := x3.below hb3
                replace hb := bto hb hb3
                clear hb3
                obtain ⟨qx1_0, qx1_1, qx1_2, qx1_3, qx1_4, qx1_5, qx1_6, qx1_7, qx1_8, qx1_9, qx1_10, qx1_11, qx1_12, qx1_13, qx1_14⟩ := x1.all
                go_wp2
                go_ret
                exact ⟨reti HV.out.symm, hb⟩
              · have bh7 : (sg x.sn == 0) = false := by rw [beq_eq_false_iff_ne]; exact h7
                have nh7 := bneq' bh7
                have HV : Hid (bondE x = 1) := by show _ = _; unfold bondE; rw [if_neg (fun h => h.elim h1 (fun h => h.elim h2 (fun h => h.elim (fun h => h h3) (fun h => h.elim h4 h5)))), if_pos (.inr h7)]
                clear h3 h6 h7
                go_enter Tryz.func192, Tryz.ntmps192
                go_wp2_with fail
                refine wp_region_kept (by kernel_rfl) (by kernel_rfl) ?_
                refine kept_val _ (fun _ => rfl) (fun ρ w hw => by go_simp; first | done | with_reducible rfl) ?_
                simp only [Act.put, List.setIfInBounds_toArray, List.set_cons_zero, List.set_cons_succ, Nat.reduceAdd]
                refine kept_val _ (fun _ => rfl) (fun ρ w hw => by have q6 := (x1.below hw).c6; have q7 := (x1.below hw).c7; go_simp; first | done | with_reducible rfl) ?_
                simp only [Act.put, List.setIfInBounds_toArray, List.set_cons_zero, List.set_cons_succ, Nat.reduceAdd]
                refine kept_call _ _ _ (fun _ => rfl) (fun ρ w hw => by go_simp; first | done | with_reducible rfl) (fun w hw => C1.out.of hG (bto hb hw)) ?_
                iterate 3
                  simp only [Act.put, List.setIfInBounds_toArray, List.set_cons_zero, List.set_cons_succ, Nat.reduceAdd]
                  refine kept_val _ (fun _ => rfl) (fun ρ w hw => by go_simp; first | done | with_reducible rfl) ?_
                simp only [Act.put, List.setIfInBounds_toArray, List.set_cons_zero, List.set_cons_succ, Nat.reduceAdd]
                refine kept_val _ (fun _ => rfl) (fun ρ w hw => by have q8 := (x1.below hw).c8; have q9 := (x1.below hw).c9; go_simp; first | done | with_reducible rfl) ?_
                simp only [Act.put, List.setIfInBounds_toArray, List.set_cons_zero, List.set_cons_succ, Nat.reduceAdd]
                refine kept_call _ _ _ (fun _ => rfl) (fun ρ w hw => by go_simp; first | done | with_reducible rfl) (fun w hw => C2.out.of hG (bto hb hw)) ?_
                iterate 5
                  simp only [Act.put, List.setIfInBounds_toArray, List.set_cons_zero, List.set_cons_succ, Nat.reduceAdd]
                  refine kept_val _ (fun _ => rfl) (fun ρ w hw => by go_simp; first | done | with_reducible rfl) ?_
                simp only [Act.put, List.setIfInBounds_toArray, List.set_cons_zero, List.set_cons_succ, Nat.reduceAdd]
                refine kept_val _ (fun _ => rfl) (fun ρ w hw => by have q10 := (x1.below hw).c10; go_simp; first | done | with_reducible rfl) ?_
                simp only [Act.put, List.setIfInBounds_toArray, List.set_cons_zero, List.set_cons_succ, Nat.reduceAdd]
                refine kept_call _ _ _ (fun _ => rfl) (fun ρ w hw => by go_simp; first | done | with_reducible rfl) (fun w hw => iContains x.months _ _ (x3.below hw)) ?_
                iterate 4
                  simp only [Act.put, List.setIfInBounds_toArray, List.set_cons_zero, List.set_cons_succ, Nat.reduceAdd]
                  refine kept_val _ (fun _ => rfl) (fun ρ w hw => by go_simp; first | done | with_reducible rfl) ?_
                simp only [Act.put, List.setIfInBounds_toArray, List.set_cons_zero, List.set_cons_succ, Nat.reduceAdd]
                refine kept_val _ (fun _ => rfl) (fun ρ w hw => by have q11 := (x1.below hw).c11; go_simp; first | done | with_reducible rfl) ?_
                iterate 4
                  simp only [Act.put, List.setIfInBounds_toArray, List.set_cons_zero, List.set_cons_succ, Nat.reduceAdd]
                  refine kept_val _ (fun _ => rfl) (fun ρ w hw => by go_simp; first | done | with_reducible rfl) ?_
                simp only [Act.put, List.setIfInBounds_toArray, List.set_cons_zero, List.set_cons_succ, Nat.reduceAdd]
                refine kept_val _ (fun _ => rfl) (fun ρ w hw => by have q11 := (x1.below hw).c11; go_simp; first | done | with_reducible rfl) ?_
                iterate 3
                  simp only [Act.put, List.setIfInBounds_toArray, List.set_cons_zero, List.set_cons_succ, Nat.reduceAdd]
                  refine kept_val _ (fun _ => rfl) (fun ρ w hw => by go_simp; first | done | with_reducible rfl) ?_
                simp only [Act.put, List.setIfInBounds_toArray, List.set_cons_zero, List.set_cons_succ, Nat.reduceAdd]
                refine kept_end (fun ρ w2 hF => ?_)
                replace x1 := x1.below hF.below
                replace x3 := x3.below hF.below
                replace hb := bto hb hF.below
                clear hF
                obtain ⟨qx1_0, qx1_1, qx1_2, qx1_3, qx1_4, qx1_5, qx1_6, qx1_7, qx1_8, qx1_9, qx1_10, qx1_11, qx1_12, qx1_13, qx1_14⟩ := x1.all
                go_wp2_with fail
                ((with_reducible refine (C3.out.of hG hb).mono ?_); rintro e w3 ⟨rfl, hb3⟩)
                clear qx1_0 qx1_1 qx1_2 qx1_3 qx1_4 qx1_5 qx1_6 qx1_7 qx1_8 qx1_9 qx1_10 qx1_11 qx1_12 qx1_13 qx1_14
                replace x1 := x1.below hb3
                replace x3 := x3.below hb3
                replace hb := bto hb hb3
                clear hb3
                obtain ⟨qx1_0, qx1_1, qx1_2, qx1_3, qx1_4, qx1_5, qx1_6, qx1_7, qx1_8, qx1_9, qx1_10, qx1_11, qx1_12, qx1_13, qx1_14⟩ := x1.all
                go_wp2
                go_ret
                exact ⟨reti HV.out.symm, hb⟩
            · have bh6 : (x.other == []) = false := by rw [beq_eq_false_iff_ne]; exact h6
              have eh6 : (x.other).isEmpty = false := by rw [List.isEmpty_eq_false_iff]; exact h6
              have HV : Hid (bondE x = 1) := by show _ = _; unfold bondE; rw [if_neg (fun h => h.elim h1 (fun h => h.elim h2 (fun h => h.elim (fun h => h h3) (fun h => h.elim h4 h5)))), if_pos (.inl h6)]
              clear h3 h6
              go_enter Tryz.func192, Tryz.ntmps192
              go_wp2_with fail
              refine wp_region_kept (by kernel_rfl) (by kernel_rfl) ?_
              refine kept_val _ (fun _ => rfl) (fun ρ w hw => by go_simp; first | done | with_reducible rfl) ?_
              simp only [Act.put, List.setIfInBounds_toArray, List.set_cons_zero, List.set_cons_succ, Nat.reduceAdd]
              refine kept_val _ (fun _ => rfl) (fun ρ w hw => by have q6 := (x1.below hw).c6; have q7 := (x1.below hw).c7; go_simp; first | done | with_reducible rfl) ?_
              simp only [Act.put, List.setIfInBounds_toArray, List.set_cons_zero, List.set_cons_succ, Nat.reduceAdd]
              refine kept_call _ _ _ (fun _ => rfl) (fun ρ w hw => by go_simp; first | done | with_reducible rfl) (fun w hw => C1.out.of hG (bto hb hw)) ?_
              iterate 3
                simp only [Act.put, List.setIfInBounds_toArray, List.set_cons_zero, List.set_cons_succ, Nat.reduceAdd]
                refine kept_val _ (fun _ => rfl) (fun ρ w hw => by go_simp; first | done | with_reducible rfl) ?_
              simp only [Act.put, List.setIfInBounds_toArray, List.set_cons_zero, List.set_cons_succ, Nat.reduceAdd]
              refine kept_val _ (fun _ => rfl) (fun ρ w hw => by have q8 := (x1.below hw).c8; have q9 := (x1.below hw).c9; go_simp; first | done | with_reducible rfl) ?_
              simp only [Act.put, List.setIfInBounds_toArray, List.set_cons_zero, List.set_cons_succ, Nat.reduceAdd]
              refine kept_call _ _ _ (fun _ => rfl) (fun ρ w hw => by go_simp; first | done | with_reducible rfl) (fun w hw => C2.out.of hG (bto hb hw)) ?_
              iterate 5
                simp only [Act.put, List.setIfInBounds_toArray, List.set_cons_zero, List.set_cons_succ, Nat.reduceAdd]
                refine kept_val _ (fun _ => rfl) (fun ρ w hw => by go_simp; first | done | with_reducible rfl) ?_
              simp only [Act.put, List.setIfInBounds_toArray, List.set_cons_zero, List.set_cons_succ, Nat.reduceAdd]
              refine kept_val _ (fun _ => rfl) (fun ρ w hw => by have q10 := (x1.below hw).c10; go_simp; first | done | with_reducible rfl) ?_
              simp only [Act.put, List.setIfInBounds_toArray, List.set_cons_zero, List.set_cons_succ, Nat.reduceAdd]
              refine kept_call _ _ _ (fun _ => rfl) (fun ρ w hw => by go_simp; first | done | with_reducible rfl) (fun w hw => iContains x.months _ _ (x3.below hw)) ?_
              iterate 4
                simp only [Act.put, List.setIfInBounds_toArray, List.set_cons_zero, List.set_cons_succ, Nat.reduceAdd]
                refine kept_val _ (fun _ => rfl) (fun ρ w hw => by go_simp; first | done | with_reducible rfl) ?_
              simp only [Act.put, List.setIfInBounds_toArray, List.set_cons_zero, List.set_cons_succ, Nat.reduceAdd]
              refine kept_val _ (fun _ => rfl) (fun ρ w hw => by have q11 := (x1.below hw).c11; go_simp; first | done | with_reducible rfl) ?_
              iterate 4
                simp only [Act.put, List.setIfInBounds_toArray, List.set_cons_zero, List.set_cons_succ, Nat.reduceAdd]
                refine kept_val _ (fun _ => rfl) (fun ρ w hw => by go_simp; first | done | with_reducible rfl) ?_
              simp only [Act.put, List.setIfInBounds_toArray, List.set_cons_zero, List.set_cons_succ, Nat.reduceAdd]
              refine kept_val _ (fun _ => rfl) (fun ρ w hw => by have q11 := (x1.below hw).c11; go_simp; first | done | with_reducible rfl) ?_
              iterate 3
                simp only [Act.put, List.setIfInBounds_toArray, List.set_cons_zero, List.set_cons_succ, Nat.reduceAdd]
                refine kept_val _ (fun _ => rfl) (fun ρ w hw => by go_simp; first | done | with_reducible rfl) ?_
              simp only [Act.put, List.setIfInBounds_toArray, List.set_cons_zero, List.set_cons_succ, Nat.reduceAdd]
              refine kept_end (fun ρ w2 hF => ?_)
              replace x1 := x1.below hF.below
              replace x3 := x3.below hF.below
              replace hb := bto hb hF.below
              clear hF
              obtain ⟨qx1_0, qx1_1, qx1_2, qx1_3, qx1_4, qx1_5, qx1_6, qx1_7, qx1_8, qx1_9, qx1_10, qx1_11, qx1_12, qx1_13, qx1_14⟩ := x1.all
              go_wp2
              go_ret
              exact ⟨reti HV.out.symm, hb⟩
      · have bh3 : monthsB x.months = false := not_true_b h3
        have HV : Hid (bondE x = 2) := by show _ = _; unfold bondE; rw [if_pos (.inr (.inr (.inl h3)))]
        clear h3
        go_enter Tryz.func192, Tryz.ntmps192
        go_wp2_with fail
        refine wp_region_kept (by kernel_rfl) (by kernel_rfl) ?_
        refine kept_val _ (fun _ => rfl) (fun ρ w hw => by go_simp; first | done | with_reducible rfl) ?_
        simp only [Act.put, List.setIfInBounds_toArray, List.set_cons_zero, List.set_cons_succ, Nat.reduceAdd]
        refine kept_val _ (fun _ => rfl) (fun ρ w hw => by have q6 := (x1.below hw).c6; have q7 := (x1.below hw).c7; go_simp; first | done | with_reducible rfl) ?_
        simp only [Act.put, List.setIfInBounds_toArray, List.set_cons_zero, List.set_cons_succ, Nat.reduceAdd]
        refine kept_call _ _ _ (fun _ => rfl) (fun ρ w hw => by go_simp; first | done | with_reducible rfl) (fun w hw => C1.out.of hG (bto hb hw)) ?_
        iterate 3
          simp only [Act.put, List.setIfInBounds_toArray, List.set_cons_zero, List.set_cons_succ, Nat.reduceAdd]
          refine kept_val _ (fun _ => rfl) (fun ρ w hw => by go_simp; first | done | with_reducible rfl) ?_
        simp only [Act.put, List.setIfInBounds_toArray, List.set_cons_zero, List.set_cons_succ, Nat.reduceAdd]
        refine kept_val _ (fun _ => rfl) (fun ρ w hw => by have q8 := (x1.below hw).c8; have q9 := (x1.below hw).c9; go_simp; first | done | with_reducible rfl) ?_
        simp only [Act.put, List.setIfInBounds_toArray, List.set_cons_zero, List.set_cons_succ, Nat.reduceAdd]
        refine kept_call _ _ _ (fun _ => rfl) (fun ρ w hw => by go_simp; first | done | with_reducible rfl) (fun w hw => C2.out.of hG (bto hb hw)) ?_
        iterate 5
          simp only [Act.put, List.setIfInBounds_toArray, List.set_cons_zero, List.set_cons_succ, Nat.reduceAdd]
          refine kept_val _ (fun _ => rfl) (fun ρ w hw => by go_simp; first | done | with_reducible rfl) ?_
        simp only [Act.put, List.setIfInBounds_toArray, List.set_cons_zero, List.set_cons_succ, Nat.reduceAdd]
        refine kept_val _ (fun _ => rfl) (fun ρ w hw => by have q10 := (x1.below hw).c10; go_simp; first | done | with_reducible rfl) ?_
        simp only [Act.put, List.setIfInBounds_toArray, List.set_cons_zero, List.set_cons_succ, Nat.reduceAdd]
        refine kept_call _ _ _ (fun _ => rfl) (fun ρ w hw => by go_simp; first | done | with_reducible rfl) (fun w hw => iContains x.months _ _ (x3.below hw)) ?_
        iterate 3
          simp only [Act.put, List.setIfInBounds_toArray, List.set_cons_zero, List.set_cons_succ, Nat.reduceAdd]
          refine kept_val _ (fun _ => rfl) (fun ρ w hw => by go_simp; first | done | with_reducible rfl) ?_
        iterate 3
          simp only [Act.put, List.setIfInBounds_toArray, List.set_cons_zero, List.set_cons_succ, Nat.reduceAdd]
          refine kept_off (fun _ => rfl) ?_
        iterate 2
          simp only [Act.put, List.setIfInBounds_toArray, List.set_cons_zero, List.set_cons_succ, Nat.reduceAdd]
          refine kept_val _ (fun _ => rfl) (fun ρ w hw => by go_simp; first | done | with_reducible rfl) ?_
        iterate 3
          simp only [Act.put, List.setIfInBounds_toArray, List.set_cons_zero, List.set_cons_succ, Nat.reduceAdd]
          refine kept_off (fun _ => rfl) ?_
        iterate 2
          simp only [Act.put, List.setIfInBounds_toArray, List.set_cons_zero, List.set_cons_succ, Nat.reduceAdd]
          refine kept_val _ (fun _ => rfl) (fun ρ w hw => by go_simp; first | done | with_reducible rfl) ?_
        simp only [Act.put, List.setIfInBounds_toArray, List.set_cons_zero, List.set_cons_succ, Nat.reduceAdd]
        refine kept_end (fun ρ w2 hF => ?_)
        replace x1 := x1.below hF.below
        replace x3 := x3.below hF.below
        replace hb := bto hb hF.below
        clear hF
        obtain ⟨qx1_0, qx1_1, qx1_2, qx1_3, qx1_4, qx1_5, qx1_6, qx1_7, qx1_8, qx1_9, qx1_10, qx1_11, qx1_12, qx1_13, qx1_14⟩ := x1.all
        go_wp2
        go_ret
        exact ⟨reti HV.out.symm, hb⟩
end Go.Proofs.YtgnppdkeiihlfaaGreatDoor
