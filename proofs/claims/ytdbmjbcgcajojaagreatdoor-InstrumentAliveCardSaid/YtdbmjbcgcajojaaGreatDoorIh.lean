/- Package instrument and trancheref10: State, Kind, ParseKind. -/
import Derived.Test.YtdbmjbcgcajojaaGreatDoorIg
namespace Go.Proofs.YtdbmjbcgcajojaaGreatDoor
open Go.RowKit Num
def stE (x : Ins) (d : Int) : Int × Int := if ¬ chkE x = 0 then (0, 1) else if ¬ dayB d = true then (0, 13) else (stOf x d, 0)
def ws5 : List (List UInt8) := [[115, 104, 97, 114, 101], [98, 111, 110, 100], [102, 117, 110, 100], [114, 105, 103, 104, 116], [102, 111, 114, 119, 97, 114, 100]]
def ws6 : List (List UInt8) := [] :: ws5
def parseK (s : List UInt8) : Int × Int := if 0 < idxL s ws5 1 then (idxL s ws5 1, 0) else (0, 7)
def kindS (k : Int) : List UInt8 × Int := if k < 1 ∨ 5 < k then ([], 7) else (ws6.getD k.toNat [], 0)
theorem ret2i {a b c d : Int} (h : a = b) (k : c = d) : Ending.returned (.tuple #[.int .i64 a, .int .i64 c]) = .returned (.tuple #[.int .i64 b, .int .i64 d]) := by rw [h, k]
set_option maxHeartbeats 1000000 in
set_option maxRecDepth 100000 in
theorem iState (x : Ins) (hx : x.Small) (d : Int) : Ret 49 #[(Value.agg #[Value.string ⟨List.toArray x.id⟩, Value.int .i64 x.kind, Value.string ⟨List.toArray x.cur⟩, Value.int .i64 x.places, Value.int .i64 x.issued, Value.int .i64 x.matures, Value.string ⟨List.toArray x.fn⟩, Value.string ⟨List.toArray x.fd⟩, Value.string ⟨List.toArray x.cn⟩, Value.string ⟨List.toArray x.cd⟩, Value.int .i64 x.months, Value.int .i64 x.count, Value.string ⟨List.toArray x.other⟩, Value.string ⟨List.toArray x.sn⟩, Value.string ⟨List.toArray x.sd⟩]), .int .i64 d] (.tuple #[.int .i64 (stE x d).1, .int .i64 (stE x d).2]) := fun w hG => by
  have C1 := Lib.hid (iCheck x hx)
  have C2 := Lib.hid (iValid d)
  have C3 := Lib.hid (iState0 x d)
  have x2 := IBox.new w x 47
  have hb := below_alloc w (.cells #[Value.string ⟨List.toArray x.id⟩, Value.int .i64 x.kind, Value.string ⟨List.toArray x.cur⟩, Value.int .i64 x.places, Value.int .i64 x.issued, Value.int .i64 x.matures, Value.string ⟨List.toArray x.fn⟩, Value.string ⟨List.toArray x.fd⟩, Value.string ⟨List.toArray x.cn⟩, Value.string ⟨List.toArray x.cd⟩, Value.int .i64 x.months, Value.int .i64 x.count, Value.string ⟨List.toArray x.other⟩, Value.string ⟨List.toArray x.sn⟩, Value.string ⟨List.toArray x.sd⟩] 47)
  by_cases h1 : chkE x = 0
  · have e1 : (chkE x == 0) = true := by rw [beq_iff_eq]; exact h1
    have e2 := bneq e1
    by_cases h2 : dayB d = true
    · have b2 := h2
      have HV : Hid (stE x d = (stOf x d, 0)) := by show _ = _; unfold stE; rw [if_neg (fun h => h h1), if_neg (fun h => h h2)]
      clear h1 h2
      go_enter Tryz.func49, Tryz.ntmps49
      have qx2_0 := x2.c0
      have qx2_1 := x2.c1
      have qx2_2 := x2.c2
      have qx2_3 := x2.c3
      have qx2_4 := x2.c4
      have qx2_5 := x2.c5
      have qx2_6 := x2.c6
      have qx2_7 := x2.c7
      have qx2_8 := x2.c8
      have qx2_9 := x2.c9
      have qx2_10 := x2.c10
      have qx2_11 := x2.c11
      have qx2_12 := x2.c12
      have qx2_13 := x2.c13
      have qx2_14 := x2.c14
      go_wp2_with fail
      ((with_reducible refine (C1.out.of hG hb).mono ?_); rintro e w2 ⟨rfl, hb2⟩)
      clear qx2_0 qx2_1 qx2_2 qx2_3 qx2_4 qx2_5 qx2_6 qx2_7 qx2_8 qx2_9 qx2_10 qx2_11 qx2_12 qx2_13 qx2_14
      replace x2 := x2.below hb2
      replace hb := bto hb hb2
      clear hb2
      have qx2_0 := x2.c0
      have qx2_1 := x2.c1
      have qx2_2 := x2.c2
      have qx2_3 := x2.c3
      have qx2_4 := x2.c4
      have qx2_5 := x2.c5
      have qx2_6 := x2.c6
      have qx2_7 := x2.c7
      have qx2_8 := x2.c8
      have qx2_9 := x2.c9
      have qx2_10 := x2.c10
      have qx2_11 := x2.c11
      have qx2_12 := x2.c12
      have qx2_13 := x2.c13
      have qx2_14 := x2.c14
      go_wp2_with fail
      ((with_reducible refine (C2.out.of hG hb).mono ?_); rintro e w3 ⟨rfl, hb3⟩)
      clear qx2_0 qx2_1 qx2_2 qx2_3 qx2_4 qx2_5 qx2_6 qx2_7 qx2_8 qx2_9 qx2_10 qx2_11 qx2_12 qx2_13 qx2_14
      replace x2 := x2.below hb3
      replace hb := bto hb hb3
      clear hb3
      have qx2_0 := x2.c0
      have qx2_1 := x2.c1
      have qx2_2 := x2.c2
      have qx2_3 := x2.c3
      have qx2_4 := x2.c4
      have qx2_5 := x2.c5
      have qx2_6 := x2.c6
      have qx2_7 := x2.c7
      have qx2_8 := x2.c8
      have qx2_9 := x2.c9
      have qx2_10 := x2.c10
      have qx2_11 := x2.c11
      have qx2_12 := x2.c12
      have qx2_13 := x2.c13
      have qx2_14 := x2.c14
      go_wp2_with fail
      ((with_reducible refine (C3.out.of hG hb).mono ?_); rintro e w4 ⟨rfl, hb4⟩)
      clear qx2_0 qx2_1 qx2_2 qx2_3 qx2_4 qx2_5 qx2_6 qx2_7 qx2_8 qx2_9 qx2_10 qx2_11 qx2_12 qx2_13 qx2_14
      replace x2 := x2.below hb4
      replace hb := bto hb hb4
      clear hb4
      have qx2_0 := x2.c0
      have qx2_1 := x2.c1
      have qx2_2 := x2.c2
      have qx2_3 := x2.c3
      have qx2_4 := x2.c4
      have qx2_5 := x2.c5
      have qx2_6 := x2.c6
      have qx2_7 := x2.c7
      have qx2_8 := x2.c8
      have qx2_9 := x2.c9
      have qx2_10 := x2.c10
      have qx2_11 := x2.c11
      have qx2_12 := x2.c12
      have qx2_13 := x2.c13
      have qx2_14 := x2.c14
      go_wp2
      go_ret2
      exact ⟨ret2i (by rw [HV.out]) (by rw [HV.out]), hb⟩
    · have b2 := not_true_b h2
      have HV : Hid (stE x d = (0, 13)) := by show _ = _; unfold stE; rw [if_neg (fun h => h h1), if_pos h2]
      clear h1 h2
      go_enter Tryz.func49, Tryz.ntmps49
      have qx2_0 := x2.c0
      have qx2_1 := x2.c1
      have qx2_2 := x2.c2
      have qx2_3 := x2.c3
      have qx2_4 := x2.c4
      have qx2_5 := x2.c5
      have qx2_6 := x2.c6
      have qx2_7 := x2.c7
      have qx2_8 := x2.c8
      have qx2_9 := x2.c9
      have qx2_10 := x2.c10
      have qx2_11 := x2.c11
      have qx2_12 := x2.c12
      have qx2_13 := x2.c13
      have qx2_14 := x2.c14
      go_wp2_with fail
      ((with_reducible refine (C1.out.of hG hb).mono ?_); rintro e w2 ⟨rfl, hb2⟩)
      clear qx2_0 qx2_1 qx2_2 qx2_3 qx2_4 qx2_5 qx2_6 qx2_7 qx2_8 qx2_9 qx2_10 qx2_11 qx2_12 qx2_13 qx2_14
      replace x2 := x2.below hb2
      replace hb := bto hb hb2
      clear hb2
      have qx2_0 := x2.c0
      have qx2_1 := x2.c1
      have qx2_2 := x2.c2
      have qx2_3 := x2.c3
      have qx2_4 := x2.c4
      have qx2_5 := x2.c5
      have qx2_6 := x2.c6
      have qx2_7 := x2.c7
      have qx2_8 := x2.c8
      have qx2_9 := x2.c9
      have qx2_10 := x2.c10
      have qx2_11 := x2.c11
      have qx2_12 := x2.c12
      have qx2_13 := x2.c13
      have qx2_14 := x2.c14
      go_wp2_with fail
      ((with_reducible refine (C2.out.of hG hb).mono ?_); rintro e w3 ⟨rfl, hb3⟩)
      clear qx2_0 qx2_1 qx2_2 qx2_3 qx2_4 qx2_5 qx2_6 qx2_7 qx2_8 qx2_9 qx2_10 qx2_11 qx2_12 qx2_13 qx2_14
      replace x2 := x2.below hb3
      replace hb := bto hb hb3
      clear hb3
      have qx2_0 := x2.c0
      have qx2_1 := x2.c1
      have qx2_2 := x2.c2
      have qx2_3 := x2.c3
      have qx2_4 := x2.c4
      have qx2_5 := x2.c5
      have qx2_6 := x2.c6
      have qx2_7 := x2.c7
      have qx2_8 := x2.c8
      have qx2_9 := x2.c9
      have qx2_10 := x2.c10
      have qx2_11 := x2.c11
      have qx2_12 := x2.c12
      have qx2_13 := x2.c13
      have qx2_14 := x2.c14
      go_wp2
      go_ret2
      exact ⟨ret2i (by rw [HV.out]) (by rw [HV.out]), hb⟩
  · have e1 : (chkE x == 0) = false := by rw [beq_eq_false_iff_ne]; exact h1
    have e2 := bneq' e1
    have HV : Hid (stE x d = (0, 1)) := by show _ = _; unfold stE; rw [if_pos h1]
    clear h1
    go_enter Tryz.func49, Tryz.ntmps49
    have qx2_0 := x2.c0
    have qx2_1 := x2.c1
    have qx2_2 := x2.c2
    have qx2_3 := x2.c3
    have qx2_4 := x2.c4
    have qx2_5 := x2.c5
    have qx2_6 := x2.c6
    have qx2_7 := x2.c7
    have qx2_8 := x2.c8
    have qx2_9 := x2.c9
    have qx2_10 := x2.c10
    have qx2_11 := x2.c11
    have qx2_12 := x2.c12
    have qx2_13 := x2.c13
    have qx2_14 := x2.c14
    go_wp2_with fail
    ((with_reducible refine (C1.out.of hG hb).mono ?_); rintro e w2 ⟨rfl, hb2⟩)
    clear qx2_0 qx2_1 qx2_2 qx2_3 qx2_4 qx2_5 qx2_6 qx2_7 qx2_8 qx2_9 qx2_10 qx2_11 qx2_12 qx2_13 qx2_14
    replace x2 := x2.below hb2
    replace hb := bto hb hb2
    clear hb2
    have qx2_0 := x2.c0
    have qx2_1 := x2.c1
    have qx2_2 := x2.c2
    have qx2_3 := x2.c3
    have qx2_4 := x2.c4
    have qx2_5 := x2.c5
    have qx2_6 := x2.c6
    have qx2_7 := x2.c7
    have qx2_8 := x2.c8
    have qx2_9 := x2.c9
    have qx2_10 := x2.c10
    have qx2_11 := x2.c11
    have qx2_12 := x2.c12
    have qx2_13 := x2.c13
    have qx2_14 := x2.c14
    go_wp2
    go_ret2
    exact ⟨ret2i (by rw [HV.out]) (by rw [HV.out]), hb⟩
set_option maxHeartbeats 1000000 in
set_option maxRecDepth 100000 in
theorem jState (x : Ins) (hx : x.Small) (d : Int) : Ret 62 #[(Value.agg #[Value.string ⟨List.toArray x.id⟩, Value.int .i64 x.kind, Value.string ⟨List.toArray x.cur⟩, Value.int .i64 x.places, Value.int .i64 x.issued, Value.int .i64 x.matures, Value.string ⟨List.toArray x.fn⟩, Value.string ⟨List.toArray x.fd⟩, Value.string ⟨List.toArray x.cn⟩, Value.string ⟨List.toArray x.cd⟩, Value.int .i64 x.months, Value.int .i64 x.count, Value.string ⟨List.toArray x.other⟩, Value.string ⟨List.toArray x.sn⟩, Value.string ⟨List.toArray x.sd⟩]), .int .i64 d] (.tuple #[.int .i64 (stE x d).1, .int .i64 (stE x d).2]) := fun w hG => by
  have C1 := Lib.hid (jCheck x hx)
  have C2 := Lib.hid (jDay d)
  have C3 := Lib.hid (jState0 x d)
  have x2 := IBox.new w x 47
  have hb := below_alloc w (.cells #[Value.string ⟨List.toArray x.id⟩, Value.int .i64 x.kind, Value.string ⟨List.toArray x.cur⟩, Value.int .i64 x.places, Value.int .i64 x.issued, Value.int .i64 x.matures, Value.string ⟨List.toArray x.fn⟩, Value.string ⟨List.toArray x.fd⟩, Value.string ⟨List.toArray x.cn⟩, Value.string ⟨List.toArray x.cd⟩, Value.int .i64 x.months, Value.int .i64 x.count, Value.string ⟨List.toArray x.other⟩, Value.string ⟨List.toArray x.sn⟩, Value.string ⟨List.toArray x.sd⟩] 47)
  by_cases h1 : chkE x = 0
  · have e1 : (chkE x == 0) = true := by rw [beq_iff_eq]; exact h1
    have e2 := bneq e1
    by_cases h2 : dayB d = true
    · rw [dayE_t h2] at C2
      have HV : Hid (stE x d = (stOf x d, 0)) := by show _ = _; unfold stE; rw [if_neg (fun h => h h1), if_neg (fun h => h h2)]
      clear h1 h2
      go_enter Tryz.func62, Tryz.ntmps62
      have qx2_0 := x2.c0
      have qx2_1 := x2.c1
      have qx2_2 := x2.c2
      have qx2_3 := x2.c3
      have qx2_4 := x2.c4
      have qx2_5 := x2.c5
      have qx2_6 := x2.c6
      have qx2_7 := x2.c7
      have qx2_8 := x2.c8
      have qx2_9 := x2.c9
      have qx2_10 := x2.c10
      have qx2_11 := x2.c11
      have qx2_12 := x2.c12
      have qx2_13 := x2.c13
      have qx2_14 := x2.c14
      go_wp2_with fail
      ((with_reducible refine (C1.out.of hG hb).mono ?_); rintro e w2 ⟨rfl, hb2⟩)
      clear qx2_0 qx2_1 qx2_2 qx2_3 qx2_4 qx2_5 qx2_6 qx2_7 qx2_8 qx2_9 qx2_10 qx2_11 qx2_12 qx2_13 qx2_14
      replace x2 := x2.below hb2
      replace hb := bto hb hb2
      clear hb2
      have qx2_0 := x2.c0
      have qx2_1 := x2.c1
      have qx2_2 := x2.c2
      have qx2_3 := x2.c3
      have qx2_4 := x2.c4
      have qx2_5 := x2.c5
      have qx2_6 := x2.c6
      have qx2_7 := x2.c7
      have qx2_8 := x2.c8
      have qx2_9 := x2.c9
      have qx2_10 := x2.c10
      have qx2_11 := x2.c11
      have qx2_12 := x2.c12
      have qx2_13 := x2.c13
      have qx2_14 := x2.c14
      go_wp2_with fail
      ((with_reducible refine (C2.out.of hG hb).mono ?_); rintro e w3 ⟨rfl, hb3⟩)
      clear qx2_0 qx2_1 qx2_2 qx2_3 qx2_4 qx2_5 qx2_6 qx2_7 qx2_8 qx2_9 qx2_10 qx2_11 qx2_12 qx2_13 qx2_14
      replace x2 := x2.below hb3
      replace hb := bto hb hb3
      clear hb3
      have qx2_0 := x2.c0
      have qx2_1 := x2.c1
      have qx2_2 := x2.c2
      have qx2_3 := x2.c3
      have qx2_4 := x2.c4
      have qx2_5 := x2.c5
      have qx2_6 := x2.c6
      have qx2_7 := x2.c7
      have qx2_8 := x2.c8
      have qx2_9 := x2.c9
      have qx2_10 := x2.c10
      have qx2_11 := x2.c11
      have qx2_12 := x2.c12
      have qx2_13 := x2.c13
      have qx2_14 := x2.c14
      go_wp2_with fail
      ((with_reducible refine (C3.out.of hG hb).mono ?_); rintro e w4 ⟨rfl, hb4⟩)
      clear qx2_0 qx2_1 qx2_2 qx2_3 qx2_4 qx2_5 qx2_6 qx2_7 qx2_8 qx2_9 qx2_10 qx2_11 qx2_12 qx2_13 qx2_14
      replace x2 := x2.below hb4
      replace hb := bto hb hb4
      clear hb4
      have qx2_0 := x2.c0
      have qx2_1 := x2.c1
      have qx2_2 := x2.c2
      have qx2_3 := x2.c3
      have qx2_4 := x2.c4
      have qx2_5 := x2.c5
      have qx2_6 := x2.c6
      have qx2_7 := x2.c7
      have qx2_8 := x2.c8
      have qx2_9 := x2.c9
      have qx2_10 := x2.c10
      have qx2_11 := x2.c11
      have qx2_12 := x2.c12
      have qx2_13 := x2.c13
      have qx2_14 := x2.c14
      go_wp2
      go_ret2
      exact ⟨ret2i (by rw [HV.out]) (by rw [HV.out]), hb⟩
    · rw [dayE_f h2] at C2
      have HV : Hid (stE x d = (0, 13)) := by show _ = _; unfold stE; rw [if_neg (fun h => h h1), if_pos h2]
      clear h1 h2
      go_enter Tryz.func62, Tryz.ntmps62
      have qx2_0 := x2.c0
      have qx2_1 := x2.c1
      have qx2_2 := x2.c2
      have qx2_3 := x2.c3
      have qx2_4 := x2.c4
      have qx2_5 := x2.c5
      have qx2_6 := x2.c6
      have qx2_7 := x2.c7
      have qx2_8 := x2.c8
      have qx2_9 := x2.c9
      have qx2_10 := x2.c10
      have qx2_11 := x2.c11
      have qx2_12 := x2.c12
      have qx2_13 := x2.c13
      have qx2_14 := x2.c14
      go_wp2_with fail
      ((with_reducible refine (C1.out.of hG hb).mono ?_); rintro e w2 ⟨rfl, hb2⟩)
      clear qx2_0 qx2_1 qx2_2 qx2_3 qx2_4 qx2_5 qx2_6 qx2_7 qx2_8 qx2_9 qx2_10 qx2_11 qx2_12 qx2_13 qx2_14
      replace x2 := x2.below hb2
      replace hb := bto hb hb2
      clear hb2
      have qx2_0 := x2.c0
      have qx2_1 := x2.c1
      have qx2_2 := x2.c2
      have qx2_3 := x2.c3
      have qx2_4 := x2.c4
      have qx2_5 := x2.c5
      have qx2_6 := x2.c6
      have qx2_7 := x2.c7
      have qx2_8 := x2.c8
      have qx2_9 := x2.c9
      have qx2_10 := x2.c10
      have qx2_11 := x2.c11
      have qx2_12 := x2.c12
      have qx2_13 := x2.c13
      have qx2_14 := x2.c14
      go_wp2_with fail
      ((with_reducible refine (C2.out.of hG hb).mono ?_); rintro e w3 ⟨rfl, hb3⟩)
      clear qx2_0 qx2_1 qx2_2 qx2_3 qx2_4 qx2_5 qx2_6 qx2_7 qx2_8 qx2_9 qx2_10 qx2_11 qx2_12 qx2_13 qx2_14
      replace x2 := x2.below hb3
      replace hb := bto hb hb3
      clear hb3
      have qx2_0 := x2.c0
      have qx2_1 := x2.c1
      have qx2_2 := x2.c2
      have qx2_3 := x2.c3
      have qx2_4 := x2.c4
      have qx2_5 := x2.c5
      have qx2_6 := x2.c6
      have qx2_7 := x2.c7
      have qx2_8 := x2.c8
      have qx2_9 := x2.c9
      have qx2_10 := x2.c10
      have qx2_11 := x2.c11
      have qx2_12 := x2.c12
      have qx2_13 := x2.c13
      have qx2_14 := x2.c14
      go_wp2
      go_ret2
      exact ⟨ret2i (by rw [HV.out]) (by rw [HV.out]), hb⟩
  · have e1 : (chkE x == 0) = false := by rw [beq_eq_false_iff_ne]; exact h1
    have e2 := bneq' e1
    have HV : Hid (stE x d = (0, 1)) := by show _ = _; unfold stE; rw [if_pos h1]
    clear h1
    go_enter Tryz.func62, Tryz.ntmps62
    have qx2_0 := x2.c0
    have qx2_1 := x2.c1
    have qx2_2 := x2.c2
    have qx2_3 := x2.c3
    have qx2_4 := x2.c4
    have qx2_5 := x2.c5
    have qx2_6 := x2.c6
    have qx2_7 := x2.c7
    have qx2_8 := x2.c8
    have qx2_9 := x2.c9
    have qx2_10 := x2.c10
    have qx2_11 := x2.c11
    have qx2_12 := x2.c12
    have qx2_13 := x2.c13
    have qx2_14 := x2.c14
    go_wp2_with fail
    ((with_reducible refine (C1.out.of hG hb).mono ?_); rintro e w2 ⟨rfl, hb2⟩)
    clear qx2_0 qx2_1 qx2_2 qx2_3 qx2_4 qx2_5 qx2_6 qx2_7 qx2_8 qx2_9 qx2_10 qx2_11 qx2_12 qx2_13 qx2_14
    replace x2 := x2.below hb2
    replace hb := bto hb hb2
    clear hb2
    have qx2_0 := x2.c0
    have qx2_1 := x2.c1
    have qx2_2 := x2.c2
    have qx2_3 := x2.c3
    have qx2_4 := x2.c4
    have qx2_5 := x2.c5
    have qx2_6 := x2.c6
    have qx2_7 := x2.c7
    have qx2_8 := x2.c8
    have qx2_9 := x2.c9
    have qx2_10 := x2.c10
    have qx2_11 := x2.c11
    have qx2_12 := x2.c12
    have qx2_13 := x2.c13
    have qx2_14 := x2.c14
    go_wp2
    go_ret2
    exact ⟨ret2i (by rw [HV.out]) (by rw [HV.out]), hb⟩
set_option maxRecDepth 100000 in
theorem iWords : Ret 117 #[] (.agg #[.string ⟨#[]⟩, .string ⟨#[115, 104, 97, 114, 101]⟩, .string ⟨#[98, 111, 110, 100]⟩, .string ⟨#[102, 117, 110, 100]⟩, .string ⟨#[114, 105, 103, 104, 116]⟩, .string ⟨#[102, 111, 114, 119, 97, 114, 100]⟩]) := fun w _ => by
  go_enter Tryz.func117, Tryz.ntmps117
  go_wp2
  refine bodyPost_ret (v := .agg #[.string ⟨#[]⟩, .string ⟨#[115, 104, 97, 114, 101]⟩, .string ⟨#[98, 111, 110, 100]⟩, .string ⟨#[102, 117, 110, 100]⟩, .string ⟨#[114, 105, 103, 104, 116]⟩, .string ⟨#[102, 111, 114, 119, 97, 114, 100]⟩]) (by simp [results, Tryz.results117, go_sem]) rfl ?_
  exact ⟨rfl, below_alloc _ _⟩
set_option maxRecDepth 100000 in
theorem jKinds (w : World) : Calls Tryz.prog 118 #[] w fun e w' => e = .returned (.slice (some ⟨w.heap.size, 0, none⟩) 5 5) ∧ w' = w.alloc (.cells #[.string ⟨#[115, 104, 97, 114, 101]⟩, .string ⟨#[98, 111, 110, 100]⟩, .string ⟨#[102, 117, 110, 100]⟩, .string ⟨#[114, 105, 103, 104, 116]⟩, .string ⟨#[102, 111, 114, 119, 97, 114, 100]⟩] 9) := by
  go_enter Tryz.func118, Tryz.ntmps118
  go_wp2
  go_ret
  exact ⟨rfl, rfl⟩
theorem ret2s {a b : List UInt8} {c d : Int} (h : a = b) (k : c = d) : Ending.returned (.tuple #[.string ⟨a.toArray⟩, .int .i64 c]) = .returned (.tuple #[.string ⟨b.toArray⟩, .int .i64 d]) := by rw [h, k]
set_option maxHeartbeats 1000000 in
set_option maxRecDepth 100000 in
theorem iKind (k : Int) : Ret 63 #[.int .i64 k] (.tuple #[.string ⟨(kindS k).1.toArray⟩, .int .i64 (kindS k).2]) := fun w hG => by
  have hb := Below.refl w.heap.size w
  have C1 := Lib.hid iWords
  by_cases h1 : k < 1
  · have e1 : decide (k < 1) = true := decide_eq_true h1
    have HV : Hid (kindS k = ([], 7)) := if_pos (.inl h1)
    go_enter Tryz.func63, Tryz.ntmps63
    go_wp2
    go_ret2
    exact ⟨ret2s (a := []) (by rw [HV.out]) (by rw [HV.out]), hb⟩
  · have e1 : decide (k < 1) = false := decide_eq_false h1
    by_cases h2 : 5 < k
    · have e2 : decide (5 < k) = true := decide_eq_true h2
      have HV : Hid (kindS k = ([], 7)) := if_pos (.inr h2)
      go_enter Tryz.func63, Tryz.ntmps63
      go_wp2
      go_ret2
      exact ⟨ret2s (a := []) (by rw [HV.out]) (by rw [HV.out]), hb⟩
    · have hk : k = 1 ∨ k = 2 ∨ k = 3 ∨ k = 4 ∨ k = 5 := by omega
      clear e1 h1 h2
      rcases hk with rfl | rfl | rfl | rfl | rfl
      · have hi : ∀ w, (Instr.index 114 (.agg #[.string ⟨#[]⟩, .string ⟨#[115, 104, 97, 114, 101]⟩, .string ⟨#[98, 111, 110, 100]⟩, .string ⟨#[102, 117, 110, 100]⟩, .string ⟨#[114, 105, 103, 104, 116]⟩, .string ⟨#[102, 111, 114, 119, 97, 114, 100]⟩]) (.int .i64 1)).run Tryz.prog w = .ok (.string ⟨#[115, 104, 97, 114, 101]⟩) w := fun w => by kernel_rfl
        go_enter Tryz.func63, Tryz.ntmps63
        go_wp2_with fail
        ((with_reducible refine (C1.out.of hG hb).mono ?_); rintro e w2 ⟨rfl, hb2⟩)
        replace hb := bto hb hb2
        clear hb2
        go_wp2
        go_ret2
        exact ⟨rfl, hb⟩
      · have hi : ∀ w, (Instr.index 114 (.agg #[.string ⟨#[]⟩, .string ⟨#[115, 104, 97, 114, 101]⟩, .string ⟨#[98, 111, 110, 100]⟩, .string ⟨#[102, 117, 110, 100]⟩, .string ⟨#[114, 105, 103, 104, 116]⟩, .string ⟨#[102, 111, 114, 119, 97, 114, 100]⟩]) (.int .i64 2)).run Tryz.prog w = .ok (.string ⟨#[98, 111, 110, 100]⟩) w := fun w => by kernel_rfl
        go_enter Tryz.func63, Tryz.ntmps63
        go_wp2_with fail
        ((with_reducible refine (C1.out.of hG hb).mono ?_); rintro e w2 ⟨rfl, hb2⟩)
        replace hb := bto hb hb2
        clear hb2
        go_wp2
        go_ret2
        exact ⟨rfl, hb⟩
      · have hi : ∀ w, (Instr.index 114 (.agg #[.string ⟨#[]⟩, .string ⟨#[115, 104, 97, 114, 101]⟩, .string ⟨#[98, 111, 110, 100]⟩, .string ⟨#[102, 117, 110, 100]⟩, .string ⟨#[114, 105, 103, 104, 116]⟩, .string ⟨#[102, 111, 114, 119, 97, 114, 100]⟩]) (.int .i64 3)).run Tryz.prog w = .ok (.string ⟨#[102, 117, 110, 100]⟩) w := fun w => by kernel_rfl
        go_enter Tryz.func63, Tryz.ntmps63
        go_wp2_with fail
        ((with_reducible refine (C1.out.of hG hb).mono ?_); rintro e w2 ⟨rfl, hb2⟩)
        replace hb := bto hb hb2
        clear hb2
        go_wp2
        go_ret2
        exact ⟨rfl, hb⟩
      · have hi : ∀ w, (Instr.index 114 (.agg #[.string ⟨#[]⟩, .string ⟨#[115, 104, 97, 114, 101]⟩, .string ⟨#[98, 111, 110, 100]⟩, .string ⟨#[102, 117, 110, 100]⟩, .string ⟨#[114, 105, 103, 104, 116]⟩, .string ⟨#[102, 111, 114, 119, 97, 114, 100]⟩]) (.int .i64 4)).run Tryz.prog w = .ok (.string ⟨#[114, 105, 103, 104, 116]⟩) w := fun w => by kernel_rfl
        go_enter Tryz.func63, Tryz.ntmps63
        go_wp2_with fail
        ((with_reducible refine (C1.out.of hG hb).mono ?_); rintro e w2 ⟨rfl, hb2⟩)
        replace hb := bto hb hb2
        clear hb2
        go_wp2
        go_ret2
        exact ⟨rfl, hb⟩
      · have hi : ∀ w, (Instr.index 114 (.agg #[.string ⟨#[]⟩, .string ⟨#[115, 104, 97, 114, 101]⟩, .string ⟨#[98, 111, 110, 100]⟩, .string ⟨#[102, 117, 110, 100]⟩, .string ⟨#[114, 105, 103, 104, 116]⟩, .string ⟨#[102, 111, 114, 119, 97, 114, 100]⟩]) (.int .i64 5)).run Tryz.prog w = .ok (.string ⟨#[102, 111, 114, 119, 97, 114, 100]⟩) w := fun w => by kernel_rfl
        go_enter Tryz.func63, Tryz.ntmps63
        go_wp2_with fail
        ((with_reducible refine (C1.out.of hG hb).mono ?_); rintro e w2 ⟨rfl, hb2⟩)
        replace hb := bto hb hb2
        clear hb2
        go_wp2
        go_ret2
        exact ⟨rfl, hb⟩
set_option maxHeartbeats 1000000 in
set_option maxRecDepth 100000 in
theorem jKind (k : Int) : Ret 64 #[.int .i64 k] (.tuple #[.string ⟨(kindS k).1.toArray⟩, .int .i64 (kindS k).2]) := fun w hG => by
  have hb := Below.refl w.heap.size w
  have C1 := Lib.hid jKinds
  by_cases h1 : k < 1
  · have e1 : decide (k < 1) = true := decide_eq_true h1
    have HV : Hid (kindS k = ([], 7)) := if_pos (.inl h1)
    go_enter Tryz.func64, Tryz.ntmps64
    go_wp2
    go_ret2
    exact ⟨ret2s (a := []) (by rw [HV.out]) (by rw [HV.out]), hb⟩
  · have e1 : decide (k < 1) = false := decide_eq_false h1
    by_cases h2 : 5 < k
    · have e2 : decide (5 < k) = true := decide_eq_true h2
      have HV : Hid (kindS k = ([], 7)) := if_pos (.inr h2)
      go_enter Tryz.func64, Tryz.ntmps64
      go_wp2
      go_ret2
      exact ⟨ret2s (a := []) (by rw [HV.out]) (by rw [HV.out]), hb⟩
    · have hk : k = 1 ∨ k = 2 ∨ k = 3 ∨ k = 4 ∨ k = 5 := by omega
      clear e1 h1 h2
      rcases hk with rfl | rfl | rfl | rfl | rfl
      · go_enter Tryz.func64, Tryz.ntmps64
        go_wp2_with fail
        ((with_reducible refine (C1.out _).mono ?_); rintro e w1 ⟨rfl, rfl⟩)
        go_wp2
        go_ret2
        exact ⟨rfl, below_alloc _ _⟩
      · go_enter Tryz.func64, Tryz.ntmps64
        go_wp2_with fail
        ((with_reducible refine (C1.out _).mono ?_); rintro e w1 ⟨rfl, rfl⟩)
        go_wp2
        go_ret2
        exact ⟨rfl, below_alloc _ _⟩
      · go_enter Tryz.func64, Tryz.ntmps64
        go_wp2_with fail
        ((with_reducible refine (C1.out _).mono ?_); rintro e w1 ⟨rfl, rfl⟩)
        go_wp2
        go_ret2
        exact ⟨rfl, below_alloc _ _⟩
      · go_enter Tryz.func64, Tryz.ntmps64
        go_wp2_with fail
        ((with_reducible refine (C1.out _).mono ?_); rintro e w1 ⟨rfl, rfl⟩)
        go_wp2
        go_ret2
        exact ⟨rfl, below_alloc _ _⟩
      · go_enter Tryz.func64, Tryz.ntmps64
        go_wp2_with fail
        ((with_reducible refine (C1.out _).mono ?_); rintro e w1 ⟨rfl, rfl⟩)
        go_wp2
        go_ret2
        exact ⟨rfl, below_alloc _ _⟩
set_option maxHeartbeats 1000000 in
theorem idx_str (v : List UInt8) (zs : List (List UInt8)) (g c : Nat) (w : World) (h : Blk w g (zs.map (fun s => Value.string ⟨s.toArray⟩)).toArray) (hl : zs.length ≤ 1000) :
    Calls Tryz.prog 119 #[.slice (some ⟨g, 0, none⟩) zs.length c, .string ⟨v.toArray⟩] w fun e w' => e = .returned (.int .i64 (idxL v zs 0)) ∧ w = w' := by
  have HD := Lib.hid (fun k y h => idxL_drop v zs k y h)
  go_enter Tryz.func119, Tryz.ntmps119
  go_wp2_with fail
  go_loop [8] (fun iv => ∃ k : Nat, k ≤ zs.length ∧ iv = .int .i64 (k : Int) ∧ Hid (idxL v zs 0 = idxL v (zs.drop k) k)) (fun iv => zs.length - (intOf iv).toNat)
  case atStart => exact ⟨0, Nat.zero_le _, rfl, rfl⟩
  case round =>
    obtain ⟨k, hk, rfl, HK⟩ := hrel
    by_cases hlt : k < zs.length
    · obtain ⟨y, hy⟩ : ∃ y, zs[k]? = some y := ⟨_, List.getElem?_eq_getElem hlt⟩
      have hc : w.cell? ⟨g, k, none⟩ = some (.string ⟨y.toArray⟩) := by rw [h.c k]; simp [hy]
      have HX := Lib.hid (HD.out k y hy)
      clear hy
      by_cases hv : v = y
      · have e1 : (v == y) = true := by rw [beq_iff_eq]; exact hv
        have HV : Hid (idxL v zs 0 = k) := by show _ = _; rw [HK.out, HX.out, if_pos hv]
        clear hv
        go_wp2
        go_ret
        exact ⟨reti HV.out.symm, rfl⟩
      · have e1 : (v == y) = false := by rw [beq_eq_false_iff_ne]; exact hv
        have HV : Hid (idxL v zs 0 = idxL v (zs.drop (k + 1)) (k + 1)) := by show _ = _; rw [HK.out, HX.out, if_neg hv]
        clear hv
        go_wp2
        go_round
        case rel => exact ⟨k + 1, by omega, by go_num, HV⟩
        case measure => simp [intOf]; omega
    · have HV : Hid (idxL v zs 0 = -1) := by show _ = _; rw [HK.out, List.drop_of_length_le (by omega)]; rfl
      go_wp2
      go_ret
      exact ⟨reti HV.out.symm, rfl⟩
theorem idx_six (s : List UInt8) : (0 < idxL s ws6 0 ∧ parseK s = (idxL s ws6 0, 0)) ∨ (idxL s ws6 0 ≤ 0 ∧ parseK s = (0, 7)) := by
  have h : idxL s ws6 0 = if s = [] then 0 else idxL s ws5 1 := rfl
  unfold parseK
  by_cases h0 : s = []
  · rw [h, if_pos h0]; right; subst h0; exact ⟨by decide, by decide⟩
  · rw [h, if_neg h0]
    by_cases h1 : 0 < idxL s ws5 1
    · left; exact ⟨h1, by rw [if_pos h1]⟩
    · right; exact ⟨by omega, by rw [if_neg h1]⟩
set_option maxHeartbeats 1000000 in
set_option maxRecDepth 100000 in
theorem iParseKind (s : List UInt8) : Ret 65 #[.string ⟨s.toArray⟩] (.tuple #[.int .i64 (parseK s).1, .int .i64 (parseK s).2]) := fun w hG => by
  have C1 := Lib.hid iWords
  have HS := Lib.hid (idx_six s)
  have hb := Below.refl w.heap.size w
  go_enter Tryz.func65, Tryz.ntmps65
  go_wp2_with fail
  ((with_reducible refine (C1.out.of hG hb).mono ?_); rintro e w1 ⟨rfl, hb1⟩)
  have hbA := below_alloc w1 (.cells #[.string ⟨#[]⟩, .string ⟨#[115, 104, 97, 114, 101]⟩, .string ⟨#[98, 111, 110, 100]⟩, .string ⟨#[102, 117, 110, 100]⟩, .string ⟨#[114, 105, 103, 104, 116]⟩, .string ⟨#[102, 111, 114, 119, 97, 114, 100]⟩] 114)
  have x4 := Blk.new w1 #[.string ⟨#[]⟩, .string ⟨#[115, 104, 97, 114, 101]⟩, .string ⟨#[98, 111, 110, 100]⟩, .string ⟨#[102, 117, 110, 100]⟩, .string ⟨#[114, 105, 103, 104, 116]⟩, .string ⟨#[102, 111, 114, 119, 97, 114, 100]⟩] 114
  have c2 : Calls Tryz.prog 119 #[.slice (some ⟨w1.heap.size, 0, none⟩) 6 6, .string ⟨s.toArray⟩] _ _ := idx_str s ws6 w1.heap.size 6 _ x4 (by decide)
  have H2 := Lib.hid c2
  have hb := bto hb1 hbA
  clear c2 hb1 hbA
  go_wp2_with fail
  ((with_reducible refine H2.out.mono ?_); rintro e w' ⟨rfl, rfl⟩)
  clear H2
  rcases HS.out with ⟨h1, h2⟩ | ⟨h1, h2⟩
  · have HV := Lib.hid h2
    have e1 : decide (0 < idxL s ws6 0) = true := decide_eq_true h1
    clear h2
    generalize idxL s ws6 0 = i at *
    go_wp2
    go_ret2
    exact ⟨ret2i (by rw [HV.out]) (by rw [HV.out]), hb⟩
  · have HV := Lib.hid h2
    have e1 : decide (0 < idxL s ws6 0) = false := decide_eq_false (by omega)
    have e2 : ¬ 0 < idxL s ws6 0 := by omega
    clear h2
    generalize idxL s ws6 0 = i at *
    go_wp2
    go_ret2
    exact ⟨ret2i (by rw [HV.out]) (by rw [HV.out]), hb⟩
theorem idxL_drop1 (v : List UInt8) (k : Nat) (y : List UInt8) (h : ws5[k]? = some y) : idxL v (ws5.drop k) (k + 1) = if v = y then ((k + 1 : Nat) : Int) else idxL v (ws5.drop (k + 1)) (k + 1 + 1) := by
  obtain ⟨hk, rfl⟩ := List.getElem?_eq_some_iff.1 h
  rw [List.drop_eq_getElem_cons hk]; rfl
set_option maxHeartbeats 1000000 in
set_option maxRecDepth 100000 in
theorem jParseKind (s : List UInt8) : Ret 66 #[.string ⟨s.toArray⟩] (.tuple #[.int .i64 (parseK s).1, .int .i64 (parseK s).2]) := fun w hG => by
  have C1 := Lib.hid (jKinds w)
  have HD := Lib.hid (fun k y h => idxL_drop1 s k y h)
  have HP : Hid (∀ r, idxL s ws5 1 = r → (0 < r → parseK s = (r, 0)) ∧ (¬ 0 < r → parseK s = (0, 7))) := by
    intro r hr; unfold parseK; rw [hr]; exact ⟨fun h => if_pos h, fun h => if_neg h⟩
  have hb := below_alloc w (.cells #[.string ⟨#[115, 104, 97, 114, 101]⟩, .string ⟨#[98, 111, 110, 100]⟩, .string ⟨#[102, 117, 110, 100]⟩, .string ⟨#[114, 105, 103, 104, 116]⟩, .string ⟨#[102, 111, 114, 119, 97, 114, 100]⟩] 9)
  have x4 := Blk.new w #[.string ⟨#[115, 104, 97, 114, 101]⟩, .string ⟨#[98, 111, 110, 100]⟩, .string ⟨#[102, 117, 110, 100]⟩, .string ⟨#[114, 105, 103, 104, 116]⟩, .string ⟨#[102, 111, 114, 119, 97, 114, 100]⟩] 9
  go_enter Tryz.func66, Tryz.ntmps66
  go_wp2_with fail
  ((with_reducible refine C1.out.mono ?_); rintro e w1 ⟨rfl, rfl⟩)
  go_wp2_with fail
  obtain ⟨W, hW⟩ : ∃ W, W = w.alloc (.cells #[.string ⟨#[115, 104, 97, 114, 101]⟩, .string ⟨#[98, 111, 110, 100]⟩, .string ⟨#[102, 117, 110, 100]⟩, .string ⟨#[114, 105, 103, 104, 116]⟩, .string ⟨#[102, 111, 114, 119, 97, 114, 100]⟩] 9) := ⟨_, rfl⟩
  rw [← hW] at x4 hb ⊢
  have HW := Lib.hid hW
  clear hW
  go_loop [5] (fun iv => ∃ k : Nat, k ≤ 5 ∧ iv = .int .i64 (k : Int) ∧ Hid (idxL s ws5 1 = idxL s (ws5.drop k) (k + 1))) (fun iv => 5 - (intOf iv).toNat)
  case atStart => exact ⟨0, Nat.zero_le _, rfl, rfl⟩
  case round =>
    obtain ⟨k, hk, rfl, HK⟩ := hrel
    by_cases hlt : k < 5
    · obtain ⟨y, hy⟩ : ∃ y, ws5[k]? = some y := ⟨_, List.getElem?_eq_getElem (by simpa [ws5] using hlt)⟩
      have hc : W.cell? ⟨w.heap.size, k, none⟩ = some (.string ⟨y.toArray⟩) := by
        rw [x4.c k]
        have : (#[.string ⟨#[115, 104, 97, 114, 101]⟩, .string ⟨#[98, 111, 110, 100]⟩, .string ⟨#[102, 117, 110, 100]⟩, .string ⟨#[114, 105, 103, 104, 116]⟩, .string ⟨#[102, 111, 114, 119, 97, 114, 100]⟩] : Array Value) = (ws5.map (fun s => Value.string ⟨s.toArray⟩)).toArray := rfl
        rw [this]; simp [hy]
      have HX := Lib.hid (HD.out k y hy)
      clear hy
      by_cases hv : s = y
      · have e1 : (s == y) = true := by rw [beq_iff_eq]; exact hv
        have e2 : (y == s) = true := by rw [beq_iff_eq]; exact hv.symm
        have HV : Hid (idxL s ws5 1 = (k + 1 : Nat)) := by show _ = _; rw [HK.out, HX.out, if_pos hv]
        have HV2 := Lib.hid ((HP.out _ HV.out).1 (by omega))
        clear hv
        go_wp2
        go_ret2
        exact ⟨ret2i (by rw [HV2.out]; first | rfl | omega | simp) (by rw [HV2.out]), hb⟩
      · have e1 : (s == y) = false := by rw [beq_eq_false_iff_ne]; exact hv
        have e2 : (y == s) = false := by rw [beq_eq_false_iff_ne]; exact fun e => hv e.symm
        have HV : Hid (idxL s ws5 1 = idxL s (ws5.drop (k + 1)) (k + 1 + 1)) := by show _ = _; rw [HK.out, HX.out, if_neg hv]
        clear hv
        go_wp2
        go_round
        case rel => exact ⟨k + 1, by omega, by go_num, HV⟩
        case measure => simp [intOf]; omega
    · have HV : Hid (idxL s ws5 1 = -1) := by show _ = _; rw [HK.out, List.drop_of_length_le (by simp [ws5]; omega)]; rfl
      have HV2 := Lib.hid ((HP.out _ HV.out).2 (by decide))
      go_wp2
      go_ret2
      exact ⟨ret2i (by rw [HV2.out]) (by rw [HV2.out]), hb⟩
end Go.Proofs.YtdbmjbcgcajojaaGreatDoor
