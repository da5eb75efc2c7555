/- Package instrument and trancheref10: State, Kind, ParseKind. -/
import Derived.Test.YtmjglcgdcclinaaGreatDoorIg
namespace Go.Proofs.YtmjglcgdcclinaaGreatDoor
open Go.RowKit Num
def stE (x : Ins) (d : Int) : Int × Int := if ¬ chkE x = 0 then (0, 1) else if ¬ dayB d = true then (0, 13) else (stOf x d, 0)
def ws5 : List (List UInt8) := [[115, 104, 97, 114, 101], [98, 111, 110, 100], [102, 117, 110, 100], [114, 105, 103, 104, 116], [102, 111, 114, 119, 97, 114, 100]]
def ws6 : List (List UInt8) := [] :: ws5
def parseK (s : List UInt8) : Int × Int := if 0 < idxL s ws5 1 then (idxL s ws5 1, 0) else (0, 7)
def kindS (k : Int) : List UInt8 × Int := if k < 1 ∨ 5 < k then ([], 7) else (ws6.getD k.toNat [], 0)
theorem ret2i {a b c d : Int} (h : a = b) (k : c = d) : Ending.returned (.tuple #[.int .i64 a, .int .i64 c]) = .returned (.tuple #[.int .i64 b, .int .i64 d]) := by rw [h, k]
set_option maxHeartbeats 1000000 in
set_option maxRecDepth 100000 in
theorem iState (x : Ins) (hx : x.Small) (d : Int) : Ret 70 #[(Value.agg #[Value.string ⟨List.toArray x.id⟩, Value.int .i64 x.kind, Value.string ⟨List.toArray x.cur⟩, Value.int .i64 x.places, Value.int .i64 x.issued, Value.int .i64 x.matures, Value.string ⟨List.toArray x.fn⟩, Value.string ⟨List.toArray x.fd⟩, Value.string ⟨List.toArray x.cn⟩, Value.string ⟨List.toArray x.cd⟩, Value.int .i64 x.months, Value.int .i64 x.count, Value.string ⟨List.toArray x.other⟩, Value.string ⟨List.toArray x.sn⟩, Value.string ⟨List.toArray x.sd⟩]), .int .i64 d] (.tuple #[.int .i64 (stE x d).1, .int .i64 (stE x d).2]) := fun w hG => by
  have C1 := Lib.hid (iCheck x hx)
  have C2 := Lib.hid (iValid d)
  have C3 := Lib.hid (iState0 x d)
  have x2 := IBox.new w x 34
  have hb := below_alloc w (.cells #[Value.string ⟨List.toArray x.id⟩, Value.int .i64 x.kind, Value.string ⟨List.toArray x.cur⟩, Value.int .i64 x.places, Value.int .i64 x.issued, Value.int .i64 x.matures, Value.string ⟨List.toArray x.fn⟩, Value.string ⟨List.toArray x.fd⟩, Value.string ⟨List.toArray x.cn⟩, Value.string ⟨List.toArray x.cd⟩, Value.int .i64 x.months, Value.int .i64 x.count, Value.string ⟨List.toArray x.other⟩, Value.string ⟨List.toArray x.sn⟩, Value.string ⟨List.toArray x.sd⟩] 34)
  by_cases h1 : chkE x = 0
  · have e1 : (chkE x == 0) = true := by rw [beq_iff_eq]; exact h1
    have e2 := bneq e1
    by_cases h2 : dayB d = true
    · have b2 := h2
      have HV : Hid (stE x d = (stOf x d, 0)) := by show _ = _; unfold stE; rw [if_neg (fun h => h h1), if_neg (fun h => h h2)]
      clear h1 h2
      go_enter Tryz.func70, Tryz.ntmps70
      have qx2_0 := x2.c0
      have qx2_1 := x2.c1
      have qx2_2 := x2.c2
      have qx2_3 := x2.c3
      have qx2_4 := x2.c4
      have qx2_5 := x2.c5
      have qx2_6 := x2.c6
      have qx2_7 := x2.c7
      have qx2_8 := x2.c8
      have qx2_9 := x2.c9
      have qx2_10 := x2.c10
      have qx2_11 := x2.c11
      have qx2_12 := x2.c12
      have qx2_13 := x2.c13
      have qx2_14 := x2.c14
      go_wp2_with fail
      ((with_reducible refine (C1.out.of hG hb).mono ?_); rintro e w2 ⟨rfl, hb2⟩)
      clear qx2_0 qx2_1 qx2_2 qx2_3 qx2_4 qx2_5 qx2_6 qx2_7 qx2_8 qx2_9 qx2_10 qx2_11 qx2_12 qx2_13 qx2_14
      replace x2 := x2.below hb2
      replace hb := bto hb hb2
      clear hb2
      have qx2_0 := x2.c0
      have qx2_1 := x2.c1
      have qx2_2 := x2.c2
      have qx2_3 := x2.c3
      have qx2_4 := x2.c4
      have qx2_5 := x2.c5
      have qx2_6 := x2.c6
      have qx2_7 := x2.c7
      have qx2_8 := x2.c8
      have qx2_9 := x2.c9
      have qx2_10 := x2.c10
      have qx2_11 := x2.c11
      have qx2_12 := x2.c12
      have qx2_13 := x2.c13
      have qx2_14 := x2.c14
      go_wp2_with fail
      ((with_reducible refine (C2.out.of hG hb).mono ?_); rintro e w3 ⟨rfl, hb3⟩)
      clear qx2_0 qx2_1 qx2_2 qx2_3 qx2_4 qx2_5 qx2_6 qx2_7 qx2_8 qx2_9 qx2_10 qx2_11 qx2_12 qx2_13 qx2_14
      replace x2 := x2.below hb3
      replace hb := bto hb hb3
      clear hb3
      have qx2_0 := x2.c0
      have qx2_1 := x2.c1
      have qx2_2 := x2.c2
      have qx2_3 := x2.c3
      have qx2_4 := x2.c4
      have qx2_5 := x2.c5
      have qx2_6 := x2.c6
      have qx2_7 := x2.c7
      have qx2_8 := x2.c8
      have qx2_9 := x2.c9
      have qx2_10 := x2.c10
      have qx2_11 := x2.c11
      have qx2_12 := x2.c12
      have qx2_13 := x2.c13
      have qx2_14 := x2.c14
      go_wp2_with fail
      ((with_reducible refine (C3.out.of hG hb).mono ?_); rintro e w4 ⟨rfl, hb4⟩)
      clear qx2_0 qx2_1 qx2_2 qx2_3 qx2_4 qx2_5 qx2_6 qx2_7 qx2_8 qx2_9 qx2_10 qx2_11 qx2_12 qx2_13 qx2_14
      replace x2 := x2.below hb4
      replace hb := bto hb hb4
      clear hb4
      have qx2_0 := x2.c0
      have qx2_1 := x2.c1
      have qx2_2 := x2.c2
      have qx2_3 := x2.c3
      have qx2_4 := x2.c4
      have qx2_5 := x2.c5
      have qx2_6 := x2.c6
      have qx2_7 := x2.c7
      have qx2_8 := x2.c8
      have qx2_9 := x2.c9
      have qx2_10 := x2.c10
      have qx2_11 := x2.c11
      have qx2_12 := x2.c12
      have qx2_13 := x2.c13
      have qx2_14 := x2.c14
      go_wp2
      go_ret2
      exact ⟨ret2i (by rw [HV.out]) (by rw [HV.out]), hb⟩
    · have b2 := not_true_b h2
      have HV : Hid (stE x d = (0, 13)) := by show _ = _; unfold stE; rw [if_neg (fun h => h h1), if_pos h2]
      clear h1 h2
      go_enter Tryz.func70, Tryz.ntmps70
      have qx2_0 := x2.c0
      have qx2_1 := x2.c1
      have qx2_2 := x2.c2
      have qx2_3 := x2.c3
      have qx2_4 := x2.c4
      have qx2_5 := x2.c5
      have qx2_6 := x2.c6
      have qx2_7 := x2.c7
      have qx2_8 := x2.c8
      have qx2_9 := x2.c9
      have qx2_10 := x2.c10
      have qx2_11 := x2.c11
      have qx2_12 := x2.c12
      have qx2_13 := x2.c13
      have qx2_14 := x2.c14
      go_wp2_with fail
      ((with_reducible refine (C1.out.of hG hb).mono ?_); rintro e w2 ⟨rfl, hb2⟩)
      clear qx2_0 qx2_1 qx2_2 qx2_3 qx2_4 qx2_5 qx2_6 qx2_7 qx2_8 qx2_9 qx2_10 qx2_11 qx2_12 qx2_13 qx2_14
      replace x2 := x2.below hb2
      replace hb := bto hb hb2
      clear hb2
      have qx2_0 := x2.c0
      have qx2_1 := x2.c1
      have qx2_2 := x2.c2
      have qx2_3 := x2.c3
      have qx2_4 := x2.c4
      have qx2_5 := x2.c5
      have qx2_6 := x2.c6
      have qx2_7 := x2.c7
      have qx2_8 := x2.c8
      have qx2_9 := x2.c9
      have qx2_10 := x2.c10
      have qx2_11 := x2.c11
      have qx2_12 := x2.c12
      have qx2_13 := x2.c13
      have qx2_14 := x2.c14
      go_wp2_with fail
      ((with_reducible refine (C2.out.of hG hb).mono ?_); rintro e w3 ⟨rfl, hb3⟩)
      clear qx2_0 qx2_1 qx2_2 qx2_3 qx2_4 qx2_5 qx2_6 qx2_7 qx2_8 qx2_9 qx2_10 qx2_11 qx2_12 qx2_13 qx2_14
      replace x2 := x2.below hb3
      replace hb := bto hb hb3
      clear hb3
      have qx2_0 := x2.c0
      have qx2_1 := x2.c1
      have qx2_2 := x2.c2
      have qx2_3 := x2.c3
      have qx2_4 := x2.c4
      have qx2_5 := x2.c5
      have qx2_6 := x2.c6
      have qx2_7 := x2.c7
      have qx2_8 := x2.c8
      have qx2_9 := x2.c9
      have qx2_10 := x2.c10
      have qx2_11 := x2.c11
      have qx2_12 := x2.c12
      have qx2_13 := x2.c13
      have qx2_14 := x2.c14
      go_wp2
      go_ret2
      exact ⟨ret2i (by rw [HV.out]) (by rw [HV.out]), hb⟩
  · have e1 : (chkE x == 0) = false := by rw [beq_eq_false_iff_ne]; exact h1
    have e2 := bneq' e1
    have HV : Hid (stE x d = (0, 1)) := by show _ = _; unfold stE; rw [if_pos h1]
    clear h1
    go_enter Tryz.func70, Tryz.ntmps70
    have qx2_0 := x2.c0
    have qx2_1 := x2.c1
    have qx2_2 := x2.c2
    have qx2_3 := x2.c3
    have qx2_4 := x2.c4
    have qx2_5 := x2.c5
    have qx2_6 := x2.c6
    have qx2_7 := x2.c7
    have qx2_8 := x2.c8
    have qx2_9 := x2.c9
    have qx2_10 := x2.c10
    have qx2_11 := x2.c11
    have qx2_12 := x2.c12
    have qx2_13 := x2.c13
    have qx2_14 := x2.c14
    go_wp2_with fail
    ((with_reducible refine (C1.out.of hG hb).mono ?_); rintro e w2 ⟨rfl, hb2⟩)
    clear qx2_0 qx2_1 qx2_2 qx2_3 qx2_4 qx2_5 qx2_6 qx2_7 qx2_8 qx2_9 qx2_10 qx2_11 qx2_12 qx2_13 qx2_14
    replace x2 := x2.below hb2
    replace hb := bto hb hb2
    clear hb2
    have qx2_0 := x2.c0
    have qx2_1 := x2.c1
    have qx2_2 := x2.c2
    have qx2_3 := x2.c3
    have qx2_4 := x2.c4
    have qx2_5 := x2.c5
    have qx2_6 := x2.c6
    have qx2_7 := x2.c7
    have qx2_8 := x2.c8
    have qx2_9 := x2.c9
    have qx2_10 := x2.c10
    have qx2_11 := x2.c11
    have qx2_12 := x2.c12
    have qx2_13 := x2.c13
    have qx2_14 := x2.c14
    go_wp2
    go_ret2
    exact ⟨ret2i (by rw [HV.out]) (by rw [HV.out]), hb⟩
theorem ret2s {a b : List UInt8} {c d : Int} (h : a = b) (k : c = d) : Ending.returned (.tuple #[.string ⟨a.toArray⟩, .int .i64 c]) = .returned (.tuple #[.string ⟨b.toArray⟩, .int .i64 d]) := by rw [h, k]
theorem idx_six (s : List UInt8) : (0 < idxL s ws6 0 ∧ parseK s = (idxL s ws6 0, 0)) ∨ (idxL s ws6 0 ≤ 0 ∧ parseK s = (0, 7)) := by
  have h : idxL s ws6 0 = if s = [] then 0 else idxL s ws5 1 := rfl
  unfold parseK
  by_cases h0 : s = []
  · rw [h, if_pos h0]; right; subst h0; exact ⟨by decide, by decide⟩
  · rw [h, if_neg h0]
    by_cases h1 : 0 < idxL s ws5 1
    · left; exact ⟨h1, by rw [if_pos h1]⟩
    · right; exact ⟨by omega, by rw [if_neg h1]⟩
theorem idxL_drop1 (v : List UInt8) (k : Nat) (y : List UInt8) (h : ws5[k]? = some y) : idxL v (ws5.drop k) (k + 1) = if v = y then ((k + 1 : Nat) : Int) else idxL v (ws5.drop (k + 1)) (k + 1 + 1) := by
  obtain ⟨hk, rfl⟩ := List.getElem?_eq_some_iff.1 h
  rw [List.drop_eq_getElem_cons hk]; rfl
end Go.Proofs.YtmjglcgdcclinaaGreatDoor
