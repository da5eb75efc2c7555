/- trancheref10: Check. -/
import Derived.Test.YtmmhimgkpfcokaaGreatDoorIf
namespace Go.Proofs.YtmmhimgkpfcokaaGreatDoor
open Go.RowKit Num
theorem can_of_num {l l' : List UInt8} (h : numE l l' = 0) : isCan l l' := by
  unfold numE at h
  split at h
  · assumption
  · exact absurd h (by decide)
theorem sg_nil {l : List UInt8} (h : ¬ sg l = 0) : (l == []) = false := by rw [beq_eq_false_iff_ne]; rintro rfl; exact h rfl
theorem sg_zero {l l' : List UInt8} (hc : isCan l l') (h : sg l = 0) : (l == []) = true ∧ (l' == []) = true := by
  obtain ⟨h1, h2⟩ := (zero_can hc).2 h
  exact ⟨by rw [h1]; rfl, by rw [h2]; rfl⟩
theorem dayE_t {d : Int} (h : dayB d = true) : dayE d = 0 := by unfold dayE; rw [if_pos h]
theorem dayE_f {d : Int} (h : ¬ dayB d = true) : dayE d = 13 := by unfold dayE; rw [if_neg h]
theorem jSg {l l' : List UInt8} (hc : isCan l l') (hl : l.length ≤ 60) (hl' : l'.length ≤ 60) : Ret 154 #[(Value.agg #[Value.string ⟨List.toArray l⟩, Value.string ⟨List.toArray l'⟩])] (.int .i64 (sg l)) := jSign (Nat.le_trans hl (by decide)) (Nat.le_trans hl' (by decide)) (sign_can hc)
set_option maxHeartbeats 8000000 in
set_option maxRecDepth 100000 in
theorem jCheck (x : Ins) (hx : x.Small) : Ret 90 #[(Value.agg #[Value.string ⟨List.toArray x.id⟩, Value.int .i64 x.kind, Value.string ⟨List.toArray x.cur⟩, Value.int .i64 x.places, Value.int .i64 x.issued, Value.int .i64 x.matures, Value.string ⟨List.toArray x.fn⟩, Value.string ⟨List.toArray x.fd⟩, Value.string ⟨List.toArray x.cn⟩, Value.string ⟨List.toArray x.cd⟩, Value.int .i64 x.months, Value.int .i64 x.count, Value.string ⟨List.toArray x.other⟩, Value.string ⟨List.toArray x.sn⟩, Value.string ⟨List.toArray x.sd⟩])] (.int .i64 (chkE x)) := fun w hG => by
  have C1 := Lib.hid (jName (l := x.id) (Nat.le_trans hx.id (by decide)))
  have C2 := Lib.hid (jCode (l := x.cur) (Nat.le_trans hx.cur (by decide)))
  have C3 := Lib.hid (jDay x.issued)
  have x1 := IBox.new w x 34
  have hb := below_alloc w (.cells #[Value.string ⟨List.toArray x.id⟩, Value.int .i64 x.kind, Value.string ⟨List.toArray x.cur⟩, Value.int .i64 x.places, Value.int .i64 x.issued, Value.int .i64 x.matures, Value.string ⟨List.toArray x.fn⟩, Value.string ⟨List.toArray x.fd⟩, Value.string ⟨List.toArray x.cn⟩, Value.string ⟨List.toArray x.cd⟩, Value.int .i64 x.months, Value.int .i64 x.count, Value.string ⟨List.toArray x.other⟩, Value.string ⟨List.toArray x.sn⟩, Value.string ⟨List.toArray x.sd⟩] 34)
  by_cases h1 : nameB x.id = true
  · have bh1 := h1
    by_cases h2 : x.kind < 1
    · have bh2 : decide (x.kind < 1) = true := decide_eq_true h2
      have HV : Hid (chkE x = 7) := by show _ = _; unfold chkE; rw [if_neg (fun h => h h1), if_pos (.inl h2)]
      clear h1
      go_enter Tryz.func90, Tryz.ntmps90
      have qx1_0 := x1.c0
      have qx1_1 := x1.c1
      have qx1_2 := x1.c2
      have qx1_3 := x1.c3
      have qx1_4 := x1.c4
      have qx1_5 := x1.c5
      have qx1_6 := x1.c6
      have qx1_7 := x1.c7
      have qx1_8 := x1.c8
      have qx1_9 := x1.c9
      have qx1_10 := x1.c10
      have qx1_11 := x1.c11
      have qx1_12 := x1.c12
      have qx1_13 := x1.c13
      have qx1_14 := x1.c14
      go_wp2_with fail
      ((with_reducible refine (C1.out.of hG hb).mono ?_); rintro e w2 ⟨rfl, hb2⟩)
      clear qx1_0 qx1_1 qx1_2 qx1_3 qx1_4 qx1_5 qx1_6 qx1_7 qx1_8 qx1_9 qx1_10 qx1_11 qx1_12 qx1_13 qx1_14
      replace x1 := x1.below hb2
      replace hb := bto hb hb2
      clear hb2
      have qx1_0 := x1.c0
      have qx1_1 := x1.c1
      have qx1_2 := x1.c2
      have qx1_3 := x1.c3
      have qx1_4 := x1.c4
      have qx1_5 := x1.c5
      have qx1_6 := x1.c6
      have qx1_7 := x1.c7
      have qx1_8 := x1.c8
      have qx1_9 := x1.c9
      have qx1_10 := x1.c10
      have qx1_11 := x1.c11
      have qx1_12 := x1.c12
      have qx1_13 := x1.c13
      have qx1_14 := x1.c14
      go_wp2
      go_ret
      exact ⟨reti HV.out.symm, hb⟩
    · have bh2 : decide (x.kind < 1) = false := decide_eq_false h2
      by_cases h3 : 5 < x.kind
      · have bh3 : decide (5 < x.kind) = true := decide_eq_true h3
        have HV : Hid (chkE x = 7) := by show _ = _; unfold chkE; rw [if_neg (fun h => h h1), if_pos (.inr h3)]
        clear h1
        go_enter Tryz.func90, Tryz.ntmps90
        have qx1_0 := x1.c0
        have qx1_1 := x1.c1
        have qx1_2 := x1.c2
        have qx1_3 := x1.c3
        have qx1_4 := x1.c4
        have qx1_5 := x1.c5
        have qx1_6 := x1.c6
        have qx1_7 := x1.c7
        have qx1_8 := x1.c8
        have qx1_9 := x1.c9
        have qx1_10 := x1.c10
        have qx1_11 := x1.c11
        have qx1_12 := x1.c12
        have qx1_13 := x1.c13
        have qx1_14 := x1.c14
        go_wp2_with fail
        ((with_reducible refine (C1.out.of hG hb).mono ?_); rintro e w2 ⟨rfl, hb2⟩)
        clear qx1_0 qx1_1 qx1_2 qx1_3 qx1_4 qx1_5 qx1_6 qx1_7 qx1_8 qx1_9 qx1_10 qx1_11 qx1_12 qx1_13 qx1_14
        replace x1 := x1.below hb2
        replace hb := bto hb hb2
        clear hb2
        have qx1_0 := x1.c0
        have qx1_1 := x1.c1
        have qx1_2 := x1.c2
        have qx1_3 := x1.c3
        have qx1_4 := x1.c4
        have qx1_5 := x1.c5
        have qx1_6 := x1.c6
        have qx1_7 := x1.c7
        have qx1_8 := x1.c8
        have qx1_9 := x1.c9
        have qx1_10 := x1.c10
        have qx1_11 := x1.c11
        have qx1_12 := x1.c12
        have qx1_13 := x1.c13
        have qx1_14 := x1.c14
        go_wp2
        go_ret
        exact ⟨reti HV.out.symm, hb⟩
      · have bh3 : decide (5 < x.kind) = false := decide_eq_false h3
        by_cases h4 : codeB x.cur = true
        · have bh4 := h4
          by_cases h5 : x.places < 0
          · have bh5 : decide (x.places < 0) = true := decide_eq_true h5
            have HV : Hid (chkE x = 2) := by show _ = _; unfold chkE; rw [if_neg (fun h => h h1), if_neg (fun h => h.elim h2 h3), if_neg (fun h => h h4), if_pos (.inl h5)]
            clear h1 h4
            go_enter Tryz.func90, Tryz.ntmps90
            have qx1_0 := x1.c0
            have qx1_1 := x1.c1
            have qx1_2 := x1.c2
            have qx1_3 := x1.c3
            have qx1_4 := x1.c4
            have qx1_5 := x1.c5
            have qx1_6 := x1.c6
            have qx1_7 := x1.c7
            have qx1_8 := x1.c8
            have qx1_9 := x1.c9
            have qx1_10 := x1.c10
            have qx1_11 := x1.c11
            have qx1_12 := x1.c12
            have qx1_13 := x1.c13
            have qx1_14 := x1.c14
            go_wp2_with fail
            ((with_reducible refine (C1.out.of hG hb).mono ?_); rintro e w2 ⟨rfl, hb2⟩)
            clear qx1_0 qx1_1 qx1_2 qx1_3 qx1_4 qx1_5 qx1_6 qx1_7 qx1_8 qx1_9 qx1_10 qx1_11 qx1_12 qx1_13 qx1_14
            replace x1 := x1.below hb2
            replace hb := bto hb hb2
            clear hb2
            have qx1_0 := x1.c0
            have qx1_1 := x1.c1
            have qx1_2 := x1.c2
            have qx1_3 := x1.c3
            have qx1_4 := x1.c4
            have qx1_5 := x1.c5
            have qx1_6 := x1.c6
            have qx1_7 := x1.c7
            have qx1_8 := x1.c8
            have qx1_9 := x1.c9
            have qx1_10 := x1.c10
            have qx1_11 := x1.c11
            have qx1_12 := x1.c12
            have qx1_13 := x1.c13
            have qx1_14 := x1.c14
            go_wp2_with fail
            ((with_reducible refine (C2.out.of hG hb).mono ?_); rintro e w3 ⟨rfl, hb3⟩)
            clear qx1_0 qx1_1 qx1_2 qx1_3 qx1_4 qx1_5 qx1_6 qx1_7 qx1_8 qx1_9 qx1_10 qx1_11 qx1_12 qx1_13 qx1_14
            replace x1 := x1.below hb3
            replace hb := bto hb hb3
            clear hb3
            have qx1_0 := x1.c0
            have qx1_1 := x1.c1
            have qx1_2 := x1.c2
            have qx1_3 := x1.c3
            have qx1_4 := x1.c4
            have qx1_5 := x1.c5
            have qx1_6 := x1.c6
            have qx1_7 := x1.c7
            have qx1_8 := x1.c8
            have qx1_9 := x1.c9
            have qx1_10 := x1.c10
            have qx1_11 := x1.c11
            have qx1_12 := x1.c12
            have qx1_13 := x1.c13
            have qx1_14 := x1.c14
            go_wp2
            go_ret
            exact ⟨reti HV.out.symm, hb⟩
          · have bh5 : decide (x.places < 0) = false := decide_eq_false h5
            by_cases h6 : 12 < x.places
            · have bh6 : decide (12 < x.places) = true := decide_eq_true h6
              have HV : Hid (chkE x = 2) := by show _ = _; unfold chkE; rw [if_neg (fun h => h h1), if_neg (fun h => h.elim h2 h3), if_neg (fun h => h h4), if_pos (.inr h6)]
              clear h1 h4
              go_enter Tryz.func90, Tryz.ntmps90
              have qx1_0 := x1.c0
              have qx1_1 := x1.c1
              have qx1_2 := x1.c2
              have qx1_3 := x1.c3
              have qx1_4 := x1.c4
              have qx1_5 := x1.c5
              have qx1_6 := x1.c6
              have qx1_7 := x1.c7
              have qx1_8 := x1.c8
              have qx1_9 := x1.c9
              have qx1_10 := x1.c10
              have qx1_11 := x1.c11
              have qx1_12 := x1.c12
              have qx1_13 := x1.c13
              have qx1_14 := x1.c14
              go_wp2_with fail
              ((with_reducible refine (C1.out.of hG hb).mono ?_); rintro e w2 ⟨rfl, hb2⟩)
              clear qx1_0 qx1_1 qx1_2 qx1_3 qx1_4 qx1_5 qx1_6 qx1_7 qx1_8 qx1_9 qx1_10 qx1_11 qx1_12 qx1_13 qx1_14
              replace x1 := x1.below hb2
              replace hb := bto hb hb2
              clear hb2
              have qx1_0 := x1.c0
              have qx1_1 := x1.c1
              have qx1_2 := x1.c2
              have qx1_3 := x1.c3
              have qx1_4 := x1.c4
              have qx1_5 := x1.c5
              have qx1_6 := x1.c6
              have qx1_7 := x1.c7
              have qx1_8 := x1.c8
              have qx1_9 := x1.c9
              have qx1_10 := x1.c10
              have qx1_11 := x1.c11
              have qx1_12 := x1.c12
              have qx1_13 := x1.c13
              have qx1_14 := x1.c14
              go_wp2_with fail
              ((with_reducible refine (C2.out.of hG hb).mono ?_); rintro e w3 ⟨rfl, hb3⟩)
              clear qx1_0 qx1_1 qx1_2 qx1_3 qx1_4 qx1_5 qx1_6 qx1_7 qx1_8 qx1_9 qx1_10 qx1_11 qx1_12 qx1_13 qx1_14
              replace x1 := x1.below hb3
              replace hb := bto hb hb3
              clear hb3
              have qx1_0 := x1.c0
              have qx1_1 := x1.c1
              have qx1_2 := x1.c2
              have qx1_3 := x1.c3
              have qx1_4 := x1.c4
              have qx1_5 := x1.c5
              have qx1_6 := x1.c6
              have qx1_7 := x1.c7
              have qx1_8 := x1.c8
              have qx1_9 := x1.c9
              have qx1_10 := x1.c10
              have qx1_11 := x1.c11
              have qx1_12 := x1.c12
              have qx1_13 := x1.c13
              have qx1_14 := x1.c14
              go_wp2
              go_ret
              exact ⟨reti HV.out.symm, hb⟩
            · have bh6 : decide (12 < x.places) = false := decide_eq_false h6
              by_cases h7 : dayB x.issued = true
              · have bh7 := h7
                have HV : Hid (chkE x = tailE x) := by show _ = _; unfold chkE; rw [if_neg (fun h => h h1), if_neg (fun h => h.elim h2 h3), if_neg (fun h => h h4), if_neg (fun h => h.elim h5 h6), if_neg (fun h => h h7)]
                have HE : Hid (∀ b, decide (x.kind = 2) = b ∨ True) := fun _ => .inr trivial
                have C4 := Lib.hid (jDay x.matures)
                rw [dayE_t h7] at C3
                have N0 := Lib.hid (jNumber (l := x.fn) (l' := x.fd) (Nat.le_trans hx.fn (by decide)) (Nat.le_trans hx.fd (by decide)))
                have N1 := Lib.hid (jNumber (l := x.cn) (l' := x.cd) (Nat.le_trans hx.cn (by decide)) (Nat.le_trans hx.cd (by decide)))
                have N2 := Lib.hid (jNumber (l := x.sn) (l' := x.sd) (Nat.le_trans hx.sn (by decide)) (Nat.le_trans hx.sd (by decide)))
                have C5 := Lib.hid (jCode (l := x.other) (Nat.le_trans hx.other (by decide)))
                clear h1 h4 h7 HE
                go_enter Tryz.func90, Tryz.ntmps90
                have qx1_0 := x1.c0
                have qx1_1 := x1.c1
                have qx1_2 := x1.c2
                have qx1_3 := x1.c3
                have qx1_4 := x1.c4
                have qx1_5 := x1.c5
                have qx1_6 := x1.c6
                have qx1_7 := x1.c7
                have qx1_8 := x1.c8
                have qx1_9 := x1.c9
                have qx1_10 := x1.c10
                have qx1_11 := x1.c11
                have qx1_12 := x1.c12
                have qx1_13 := x1.c13
                have qx1_14 := x1.c14
                go_wp2_with fail
                ((with_reducible refine (C1.out.of hG hb).mono ?_); rintro e w2 ⟨rfl, hb2⟩)
                clear qx1_0 qx1_1 qx1_2 qx1_3 qx1_4 qx1_5 qx1_6 qx1_7 qx1_8 qx1_9 qx1_10 qx1_11 qx1_12 qx1_13 qx1_14
                replace x1 := x1.below hb2
                replace hb := bto hb hb2
                clear hb2
                have qx1_0 := x1.c0
                have qx1_1 := x1.c1
                have qx1_2 := x1.c2
                have qx1_3 := x1.c3
                have qx1_4 := x1.c4
                have qx1_5 := x1.c5
                have qx1_6 := x1.c6
                have qx1_7 := x1.c7
                have qx1_8 := x1.c8
                have qx1_9 := x1.c9
                have qx1_10 := x1.c10
                have qx1_11 := x1.c11
                have qx1_12 := x1.c12
                have qx1_13 := x1.c13
                have qx1_14 := x1.c14
                go_wp2_with fail
                ((with_reducible refine (C2.out.of hG hb).mono ?_); rintro e w3 ⟨rfl, hb3⟩)
                clear qx1_0 qx1_1 qx1_2 qx1_3 qx1_4 qx1_5 qx1_6 qx1_7 qx1_8 qx1_9 qx1_10 qx1_11 qx1_12 qx1_13 qx1_14
                replace x1 := x1.below hb3
                replace hb := bto hb hb3
                clear hb3
                have qx1_0 := x1.c0
                have qx1_1 := x1.c1
                have qx1_2 := x1.c2
                have qx1_3 := x1.c3
                have qx1_4 := x1.c4
                have qx1_5 := x1.c5
                have qx1_6 := x1.c6
                have qx1_7 := x1.c7
                have qx1_8 := x1.c8
                have qx1_9 := x1.c9
                have qx1_10 := x1.c10
                have qx1_11 := x1.c11
                have qx1_12 := x1.c12
                have qx1_13 := x1.c13
                have qx1_14 := x1.c14
                go_wp2_with fail
                ((with_reducible refine (C3.out.of hG hb).mono ?_); rintro e w4 ⟨rfl, hb4⟩)
                clear qx1_0 qx1_1 qx1_2 qx1_3 qx1_4 qx1_5 qx1_6 qx1_7 qx1_8 qx1_9 qx1_10 qx1_11 qx1_12 qx1_13 qx1_14
                replace x1 := x1.below hb4
                replace hb := bto hb hb4
                clear hb4
                have qx1_0 := x1.c0
                have qx1_1 := x1.c1
                have qx1_2 := x1.c2
                have qx1_3 := x1.c3
                have qx1_4 := x1.c4
                have qx1_5 := x1.c5
                have qx1_6 := x1.c6
                have qx1_7 := x1.c7
                have qx1_8 := x1.c8
                have qx1_9 := x1.c9
                have qx1_10 := x1.c10
                have qx1_11 := x1.c11
                have qx1_12 := x1.c12
                have qx1_13 := x1.c13
                have qx1_14 := x1.c14
                go_upto_region 11 with fail
                clear qx1_0 qx1_1 qx1_2 qx1_3 qx1_4 qx1_5 qx1_6 qx1_7 qx1_8 qx1_9 qx1_10 qx1_11 qx1_12 qx1_13 qx1_14
                go_cut [3] from 37 to 44 (fun s3 wx => s3 = .bool (endsB x) ∧ wx = w4)
                case first =>
                  by_cases k2 : x.kind = 2
                  · have e1 : (x.kind == 2) = true := by rw [beq_iff_eq]; exact k2
                    have HM : Hid (endsB x = true) := by show _ = _; unfold endsB; rw [decide_eq_true k2]; rfl
                    clear k2
                    have qx1_1 := x1.c1
                    go_wp2
                    go_meet
                    case rel => exact ⟨by rw [HM.out], rfl⟩
                  · have e1 : (x.kind == 2) = false := by rw [beq_eq_false_iff_ne]; exact k2
                    by_cases k5 : x.kind = 5
                    · have e2 : (x.kind == 5) = true := by rw [beq_iff_eq]; exact k5
                      have HM : Hid (endsB x = true) := by show _ = _; unfold endsB; rw [decide_eq_false k2, decide_eq_true k5]; rfl
                      clear k2 k5
                      have qx1_1 := x1.c1
                      go_wp2
                      go_meet
                      case rel => exact ⟨by rw [HM.out], rfl⟩
                    · have e2 : (x.kind == 5) = false := by rw [beq_eq_false_iff_ne]; exact k5
                      have HM : Hid (endsB x = false) := by show _ = _; unfold endsB; rw [decide_eq_false k2, decide_eq_false k5]; rfl
                      clear k2 k5
                      have qx1_1 := x1.c1
                      go_wp2
                      go_meet
                      case rel => exact ⟨by rw [HM.out], rfl⟩
                case rest =>
                  obtain ⟨rfl, rfl⟩ := hcut
                  obtain ⟨ends, hends⟩ : ∃ b, endsB x = b := ⟨_, rfl⟩
                  rw [hends]
                  have HE := Lib.hid hends
                  clear hends
                  go_upto_region 12 with fail
                  go_cut [68] from 45 to 68 (fun s68 wx => s68 = .bool (matB x) ∧ Below wc.heap.size wc wx)
                  case first =>
                    by_cases m0 : x.matures = 0
                    · have e1 : (x.matures == 0) = true := by rw [beq_iff_eq]; exact m0
                      have e2 := bneq e1
                      have HM : Hid (matB x = ends) := by show _ = _; rw [mat_0 m0, HE.out]
                      clear m0
                      cases ends
                      · have e3 := HM.out
                        clear HM
                        have qx1_4 := x1.c4
                        have qx1_5 := x1.c5
                        go_wp2
                        go_meet
                        case rel => exact ⟨by rw [e3], Below.refl _ _⟩
                      · have e3 := HM.out
                        clear HM
                        have qx1_4 := x1.c4
                        have qx1_5 := x1.c5
                        go_wp2
                        go_meet
                        case rel => exact ⟨by rw [e3], Below.refl _ _⟩
                    · have e1 : (x.matures == 0) = false := by rw [beq_eq_false_iff_ne]; exact m0
                      have e2 := bneq' e1
                      have hG2 := hG.below hb
                      have hb2 := Below.refl wc.heap.size wc
                      by_cases m1 : dayB x.matures = true
                      · rw [dayE_t m1] at C4
                        by_cases m2 : x.matures ≤ x.issued
                        · have e3 : decide (x.matures ≤ x.issued) = true := decide_eq_true m2
                          have HM : Hid (matB x = true) := mat_2 m0 m2
                          clear m0
                          have qx1_4 := x1.c4
                          have qx1_5 := x1.c5
                          go_wp2_with fail
                          ((with_reducible refine (C4.out.of hG2 hb2).mono ?_); rintro e wv ⟨rfl, hbv⟩)
                          clear qx1_4 qx1_5
                          replace x1 := x1.below hbv
                          have qx1_4 := x1.c4
                          have qx1_5 := x1.c5
                          go_wp2
                          go_meet
                          case rel => exact ⟨by rw [HM.out], hbv⟩
                        · have e3 : decide (x.matures ≤ x.issued) = false := decide_eq_false m2
                          have HM : Hid (matB x = false) := mat_3 m0 m1 m2
                          clear m0
                          have qx1_4 := x1.c4
                          have qx1_5 := x1.c5
                          go_wp2_with fail
                          ((with_reducible refine (C4.out.of hG2 hb2).mono ?_); rintro e wv ⟨rfl, hbv⟩)
                          clear qx1_4 qx1_5
                          replace x1 := x1.below hbv
                          have qx1_4 := x1.c4
                          have qx1_5 := x1.c5
                          go_wp2
                          go_meet
                          case rel => exact ⟨by rw [HM.out], hbv⟩
                      · rw [dayE_f m1] at C4
                        have m1 := not_true_b m1
                        have HM : Hid (matB x = true) := mat_1 m0 m1
                        clear m0
                        have qx1_4 := x1.c4
                        have qx1_5 := x1.c5
                        go_wp2_with fail
                        ((with_reducible refine (C4.out.of hG2 hb2).mono ?_); rintro e wv ⟨rfl, hbv⟩)
                        clear qx1_4 qx1_5
                        replace x1 := x1.below hbv
                        have qx1_4 := x1.c4
                        have qx1_5 := x1.c5
                        go_wp2
                        go_meet
                        case rel => exact ⟨by rw [HM.out], hbv⟩
                  case rest =>
                    obtain ⟨rfl, hbc⟩ := hcut
                    skip
                    replace x1 := x1.below hbc
                    replace hb := bto hb hbc
                    clear hbc C4 HE
                    obtain ⟨mb, hmb⟩ : ∃ b, matB x = b := ⟨_, rfl⟩
                    rw [hmb]
                    have HB := Lib.hid hmb
                    clear hmb
                    rcases Bool.eq_false_or_eq_true mb with hm | hm <;> subst hm
                    · have HT : Hid (tailE x = 13) := by show _ = _; unfold tailE; rw [if_pos HB.out]
                      clear HB N0 N1 N2 C5
                      go_wp2
                      go_ret
                      exact ⟨reti (HV.out.trans HT.out).symm, hb⟩
                    · have HT : Hid (tailE x = if numsE x ≠ 0 then numsE x else ownE x) := by show _ = _; unfold tailE; rw [if_neg (by rw [HB.out]; decide)]
                      clear HB
                      have qx1_0 := x1.c0
                      have qx1_1 := x1.c1
                      have qx1_2 := x1.c2
                      have qx1_3 := x1.c3
                      have qx1_4 := x1.c4
                      have qx1_5 := x1.c5
                      have qx1_6 := x1.c6
                      have qx1_7 := x1.c7
                      have qx1_8 := x1.c8
                      have qx1_9 := x1.c9
                      have qx1_10 := x1.c10
                      have qx1_11 := x1.c11
                      have qx1_12 := x1.c12
                      have qx1_13 := x1.c13
                      have qx1_14 := x1.c14
                      go_wp2_with fail
                      clear qx1_0 qx1_1 qx1_2 qx1_3 qx1_4 qx1_5 qx1_6 qx1_7 qx1_8 qx1_9 qx1_10 qx1_11 qx1_12 qx1_13 qx1_14
                      have hbA := below_alloc wc (.cells #[.string ⟨x.fn.toArray⟩, .string ⟨x.fd.toArray⟩, .string ⟨x.cn.toArray⟩, .string ⟨x.cd.toArray⟩, .string ⟨x.sn.toArray⟩, .string ⟨x.sd.toArray⟩] 32)
                      have xN := Blk.new wc #[.string ⟨x.fn.toArray⟩, .string ⟨x.fd.toArray⟩, .string ⟨x.cn.toArray⟩, .string ⟨x.cd.toArray⟩, .string ⟨x.sn.toArray⟩, .string ⟨x.sd.toArray⟩] 32
                      replace x1 := x1.below hbA
                      replace hb := bto hb hbA
                      clear hbA
                      go_loopw [5] (fun iv wr => ∃ k : Nat, k ≤ 3 ∧ iv = .int .i64 (k : Int) ∧ Hid ((1 ≤ k → numE x.fn x.fd = 0) ∧ (2 ≤ k → numE x.cn x.cd = 0) ∧ (3 ≤ k → numE x.sn x.sd = 0)) ∧ IBox wr w.heap.size x ∧ Blk wr wc.heap.size #[.string ⟨x.fn.toArray⟩, .string ⟨x.fd.toArray⟩, .string ⟨x.cn.toArray⟩, .string ⟨x.cd.toArray⟩, .string ⟨x.sn.toArray⟩, .string ⟨x.sd.toArray⟩] ∧ Below w.heap.size w wr) (fun iv _ => 3 - (intOf iv).toNat)
                      case atStart => exact ⟨0, by omega, rfl, ⟨fun h => absurd h (by decide), fun h => absurd h (by decide), fun h => absurd h (by decide)⟩, x1, xN, hb⟩
                      case round =>
                        obtain ⟨k, hk, rfl, HK, y1, yN, hbr⟩ := hrel
                        have hk4 : k = 0 ∨ k = 1 ∨ k = 2 ∨ k = 3 := by omega
                        rcases hk4 with rfl | rfl | rfl | rfl
                        · have q0 : wr.cell? ⟨wc.heap.size, 0, none⟩ = some (.string ⟨x.fn.toArray⟩) := yN.c 0
                          have q1 : wr.cell? ⟨wc.heap.size, 1, none⟩ = some (.string ⟨x.fd.toArray⟩) := yN.c 1
                          go_wp2_with fail
                          ((with_reducible refine (N0.out.of hG hbr).mono ?_); rintro e wn ⟨rfl, hbn⟩)
                          replace y1 := y1.below hbn
                          replace yN := yN.below hbn
                          replace hbr := bto hbr hbn
                          clear hbn q0 q1
                          by_cases hz : numE x.fn x.fd = 0
                          · have HK2 : Hid ((1 ≤ 1 → numE x.fn x.fd = 0) ∧ (2 ≤ 1 → numE x.cn x.cd = 0) ∧ (3 ≤ 1 → numE x.sn x.sd = 0)) := ⟨fun _ => hz, fun h => absurd h (by decide), fun h => absurd h (by decide)⟩
                            have e1 : (numE x.fn x.fd == 0) = true := by rw [beq_iff_eq]; exact hz
                            have e2 := bneq e1
                            clear hz HK
                            go_wp2
                            go_roundw
                            case rel => exact ⟨1, by omega, by first | rfl | go_num, HK2, y1, yN, hbr⟩
                            case measure => simp [intOf]
                          · have HQ : Hid (tailE x = numE x.fn x.fd) := by show _ = _; have hq := nums_0 hz; rw [HT.out, hq, if_pos hz]
                            have e1 : (numE x.fn x.fd == 0) = false := by rw [beq_eq_false_iff_ne]; exact hz
                            have e2 := bneq' e1
                            clear hz HK
                            go_wp2
                            go_ret
                            exact ⟨reti (HV.out.trans HQ.out).symm, hbr⟩
                        · have q0 : wr.cell? ⟨wc.heap.size, 2, none⟩ = some (.string ⟨x.cn.toArray⟩) := yN.c 2
                          have q1 : wr.cell? ⟨wc.heap.size, 3, none⟩ = some (.string ⟨x.cd.toArray⟩) := yN.c 3
                          go_wp2_with fail
                          ((with_reducible refine (N1.out.of hG hbr).mono ?_); rintro e wn ⟨rfl, hbn⟩)
                          replace y1 := y1.below hbn
                          replace yN := yN.below hbn
                          replace hbr := bto hbr hbn
                          clear hbn q0 q1
                          by_cases hz : numE x.cn x.cd = 0
                          · have HK2 : Hid ((1 ≤ 2 → numE x.fn x.fd = 0) ∧ (2 ≤ 2 → numE x.cn x.cd = 0) ∧ (3 ≤ 2 → numE x.sn x.sd = 0)) := ⟨fun _ => HK.out.1 (by decide), fun _ => hz, fun h => absurd h (by decide)⟩
                            have e1 : (numE x.cn x.cd == 0) = true := by rw [beq_iff_eq]; exact hz
                            have e2 := bneq e1
                            clear hz HK
                            go_wp2
                            go_roundw
                            case rel => exact ⟨2, by omega, by first | rfl | go_num, HK2, y1, yN, hbr⟩
                            case measure => simp [intOf]
                          · have HQ : Hid (tailE x = numE x.cn x.cd) := by show _ = _; have hq := nums_1 (HK.out.1 (by decide)) hz; rw [HT.out, hq, if_pos hz]
                            have e1 : (numE x.cn x.cd == 0) = false := by rw [beq_eq_false_iff_ne]; exact hz
                            have e2 := bneq' e1
                            clear hz HK
                            go_wp2
                            go_ret
                            exact ⟨reti (HV.out.trans HQ.out).symm, hbr⟩
                        · have q0 : wr.cell? ⟨wc.heap.size, 4, none⟩ = some (.string ⟨x.sn.toArray⟩) := yN.c 4
                          have q1 : wr.cell? ⟨wc.heap.size, 5, none⟩ = some (.string ⟨x.sd.toArray⟩) := yN.c 5
                          go_wp2_with fail
                          ((with_reducible refine (N2.out.of hG hbr).mono ?_); rintro e wn ⟨rfl, hbn⟩)
                          replace y1 := y1.below hbn
                          replace yN := yN.below hbn
                          replace hbr := bto hbr hbn
                          clear hbn q0 q1
                          by_cases hz : numE x.sn x.sd = 0
                          · have HK2 : Hid ((1 ≤ 3 → numE x.fn x.fd = 0) ∧ (2 ≤ 3 → numE x.cn x.cd = 0) ∧ (3 ≤ 3 → numE x.sn x.sd = 0)) := ⟨fun _ => HK.out.1 (by decide), fun _ => HK.out.2.1 (by decide), fun _ => hz⟩
                            have e1 : (numE x.sn x.sd == 0) = true := by rw [beq_iff_eq]; exact hz
                            have e2 := bneq e1
                            clear hz HK
                            go_wp2
                            go_roundw
                            case rel => exact ⟨3, by omega, by first | rfl | go_num, HK2, y1, yN, hbr⟩
                            case measure => simp [intOf]
                          · have HQ : Hid (tailE x = numE x.sn x.sd) := by show _ = _; have hq := nums_2 (HK.out.1 (by decide)) (HK.out.2.1 (by decide)); rw [HT.out, hq, if_pos hz]
                            have e1 : (numE x.sn x.sd == 0) = false := by rw [beq_eq_false_iff_ne]; exact hz
                            have e2 := bneq' e1
                            clear hz HK
                            go_wp2
                            go_ret
                            exact ⟨reti (HV.out.trans HQ.out).symm, hbr⟩
                        · have HQ : Hid (tailE x = ownE x) := by show _ = _; have hq := nums_2 (HK.out.1 (by decide)) (HK.out.2.1 (by decide)); rw [HT.out, hq, if_neg (fun g => g (HK.out.2.2 (by decide)))]
                          have ca := can_of_num (HK.out.1 (by decide))
                          have cb := can_of_num (HK.out.2.1 (by decide))
                          have cc := can_of_num (HK.out.2.2 (by decide))
                          have S1 := Lib.hid (jSg ca hx.fn hx.fd)
                          have S2 := Lib.hid (jSg cb hx.cn hx.cd)
                          have S3 := Lib.hid (jSg cc hx.sn hx.sd)
                          have ZA := Lib.hid ca
                          have ZB := Lib.hid cb
                          have ZC := Lib.hid cc
                          clear HK HT N0 N1 N2 ca cb cc
                          have hbA := below_alloc wr (.cells #[.string ⟨#[]⟩, .string ⟨#[]⟩] 32)
                          have x7 := FBox.new wr (.string ⟨#[]⟩) (.string ⟨#[]⟩) 32
                          replace y1 := y1.below hbA
                          replace hbr := bto hbr hbA
                          have hb := hbr
                          clear hbA hbr
                          by_cases k2 : x.kind = 2
                          · have e2 : (x.kind == 2) = true := by rw [beq_iff_eq]; exact k2
                            have HO2 : Hid (ownE x = bondE x) := if_pos k2
                            clear k2 C5
                            have qy1_1 := y1.c1
                            go_upto_region 23 with fail
                            clear qy1_1
                            go_cut [8] from 94 to 121 (fun s8 wx => s8 = .bool (monthsB x.months) ∧ wx = wr.alloc (.cells #[.string ⟨#[]⟩, .string ⟨#[]⟩] 32))
                            case first =>
                              by_cases v1 : x.months = 1
                              · have f1 : (x.months == 1) = true := by rw [beq_iff_eq]; exact v1
                                have HM : Hid (monthsB x.months = true) := by show _ = _; rw [v1]; rfl
                                clear v1
                                have qy1_10 := y1.c10
                                go_wp2
                                go_meet
                                case rel => exact ⟨by rw [HM.out], rfl⟩
                              · have f1 : (x.months == 1) = false := by rw [beq_eq_false_iff_ne]; exact v1
                                by_cases v2 : x.months = 2
                                · have f2 : (x.months == 2) = true := by rw [beq_iff_eq]; exact v2
                                  have HM : Hid (monthsB x.months = true) := by show _ = _; rw [v2]; rfl
                                  clear v1 v2
                                  have qy1_10 := y1.c10
                                  go_wp2
                                  go_meet
                                  case rel => exact ⟨by rw [HM.out], rfl⟩
                                · have f2 : (x.months == 2) = false := by rw [beq_eq_false_iff_ne]; exact v2
                                  by_cases v3 : x.months = 3
                                  · have f3 : (x.months == 3) = true := by rw [beq_iff_eq]; exact v3
                                    have HM : Hid (monthsB x.months = true) := by show _ = _; rw [v3]; rfl
                                    clear v1 v2 v3
                                    have qy1_10 := y1.c10
                                    go_wp2
                                    go_meet
                                    case rel => exact ⟨by rw [HM.out], rfl⟩
                                  · have f3 : (x.months == 3) = false := by rw [beq_eq_false_iff_ne]; exact v3
                                    by_cases v4 : x.months = 4
                                    · have f4 : (x.months == 4) = true := by rw [beq_iff_eq]; exact v4
                                      have HM : Hid (monthsB x.months = true) := by show _ = _; rw [v4]; rfl
                                      clear v1 v2 v3 v4
                                      have qy1_10 := y1.c10
                                      go_wp2
                                      go_meet
                                      case rel => exact ⟨by rw [HM.out], rfl⟩
                                    · have f4 : (x.months == 4) = false := by rw [beq_eq_false_iff_ne]; exact v4
                                      by_cases v6 : x.months = 6
                                      · have f6 : (x.months == 6) = true := by rw [beq_iff_eq]; exact v6
                                        have HM : Hid (monthsB x.months = true) := by show _ = _; rw [v6]; rfl
                                        clear v1 v2 v3 v4 v6
                                        have qy1_10 := y1.c10
                                        go_wp2
                                        go_meet
                                        case rel => exact ⟨by rw [HM.out], rfl⟩
                                      · have f6 : (x.months == 6) = false := by rw [beq_eq_false_iff_ne]; exact v6
                                        by_cases v12 : x.months = 12
                                        · have f12 : (x.months == 12) = true := by rw [beq_iff_eq]; exact v12
                                          have HM : Hid (monthsB x.months = true) := by show _ = _; rw [v12]; rfl
                                          clear v1 v2 v3 v4 v6 v12
                                          have qy1_10 := y1.c10
                                          go_wp2
                                          go_meet
                                          case rel => exact ⟨by rw [HM.out], rfl⟩
                                        · have f12 : (x.months == 12) = false := by rw [beq_eq_false_iff_ne]; exact v12
                                          have HM : Hid (monthsB x.months = false) := by show _ = _; unfold monthsB; exact decide_eq_false (by simp only [List.mem_cons, List.not_mem_nil, or_false]; omega)
                                          clear v1 v2 v3 v4 v6 v12
                                          have qy1_10 := y1.c10
                                          go_wp2
                                          go_meet
                                          case rel => exact ⟨by rw [HM.out], rfl⟩
                            case rest =>
                              obtain ⟨rfl, rfl⟩ := hcut
                              obtain ⟨mo, hmo⟩ : ∃ b, monthsB x.months = b := ⟨_, rfl⟩
                              rw [hmo]
                              have HB := Lib.hid hmo
                              clear hmo
                              rcases Bool.eq_false_or_eq_true mo with hm | hm <;> subst hm
                              · by_cases a1 : sg x.fn ≤ 0
                                · have ba1 : decide (sg x.fn ≤ 0) = true := decide_eq_true a1
                                  have HO : Hid (tailE x = 2) := by show _ = _; rw [HQ.out]; rw [HO2.out]; unfold bondE; exact if_pos (.inl a1)
                                  clear a1
                                  have qy1_0 := y1.c0
                                  have qy1_1 := y1.c1
                                  have qy1_2 := y1.c2
                                  have qy1_3 := y1.c3
                                  have qy1_4 := y1.c4
                                  have qy1_5 := y1.c5
                                  have qy1_6 := y1.c6
                                  have qy1_7 := y1.c7
                                  have qy1_8 := y1.c8
                                  have qy1_9 := y1.c9
                                  have qy1_10 := y1.c10
                                  have qy1_11 := y1.c11
                                  have qy1_12 := y1.c12
                                  have qy1_13 := y1.c13
                                  have qy1_14 := y1.c14
                                  have qx7_0 := x7.c0
                                  have qx7_1 := x7.c1
                                  go_wp2_with fail
                                  ((with_reducible refine (S1.out.of hG hb).mono ?_); rintro e w5 ⟨rfl, hb5⟩)
                                  clear qy1_0 qy1_1 qy1_2 qy1_3 qy1_4 qy1_5 qy1_6 qy1_7 qy1_8 qy1_9 qy1_10 qy1_11 qy1_12 qy1_13 qy1_14 qx7_0 qx7_1
                                  replace y1 := y1.below hb5
                                  replace x7 := x7.below hb5
                                  replace hb := bto hb hb5
                                  clear hb5
                                  have qy1_0 := y1.c0
                                  have qy1_1 := y1.c1
                                  have qy1_2 := y1.c2
                                  have qy1_3 := y1.c3
                                  have qy1_4 := y1.c4
                                  have qy1_5 := y1.c5
                                  have qy1_6 := y1.c6
                                  have qy1_7 := y1.c7
                                  have qy1_8 := y1.c8
                                  have qy1_9 := y1.c9
                                  have qy1_10 := y1.c10
                                  have qy1_11 := y1.c11
                                  have qy1_12 := y1.c12
                                  have qy1_13 := y1.c13
                                  have qy1_14 := y1.c14
                                  have qx7_0 := x7.c0
                                  have qx7_1 := x7.c1
                                  go_wp2
                                  go_ret
                                  exact ⟨reti (HV.out.trans HO.out).symm, hb⟩
                                · have ba1 : decide (sg x.fn ≤ 0) = false := decide_eq_false a1
                                  by_cases a2 : sg x.cn < 0
                                  · have ba2 : decide (sg x.cn < 0) = true := decide_eq_true a2
                                    have HO : Hid (tailE x = 2) := by show _ = _; rw [HQ.out]; rw [HO2.out]; unfold bondE; exact if_pos (.inr (.inl a2))
                                    clear a1 a2
                                    have qy1_0 := y1.c0
                                    have qy1_1 := y1.c1
                                    have qy1_2 := y1.c2
                                    have qy1_3 := y1.c3
                                    have qy1_4 := y1.c4
                                    have qy1_5 := y1.c5
                                    have qy1_6 := y1.c6
                                    have qy1_7 := y1.c7
                                    have qy1_8 := y1.c8
                                    have qy1_9 := y1.c9
                                    have qy1_10 := y1.c10
                                    have qy1_11 := y1.c11
                                    have qy1_12 := y1.c12
                                    have qy1_13 := y1.c13
                                    have qy1_14 := y1.c14
                                    have qx7_0 := x7.c0
                                    have qx7_1 := x7.c1
                                    go_wp2_with fail
                                    ((with_reducible refine (S1.out.of hG hb).mono ?_); rintro e w5 ⟨rfl, hb5⟩)
                                    clear qy1_0 qy1_1 qy1_2 qy1_3 qy1_4 qy1_5 qy1_6 qy1_7 qy1_8 qy1_9 qy1_10 qy1_11 qy1_12 qy1_13 qy1_14 qx7_0 qx7_1
                                    replace y1 := y1.below hb5
                                    replace x7 := x7.below hb5
                                    replace hb := bto hb hb5
                                    clear hb5
                                    have qy1_0 := y1.c0
                                    have qy1_1 := y1.c1
                                    have qy1_2 := y1.c2
                                    have qy1_3 := y1.c3
                                    have qy1_4 := y1.c4
                                    have qy1_5 := y1.c5
                                    have qy1_6 := y1.c6
                                    have qy1_7 := y1.c7
                                    have qy1_8 := y1.c8
                                    have qy1_9 := y1.c9
                                    have qy1_10 := y1.c10
                                    have qy1_11 := y1.c11
                                    have qy1_12 := y1.c12
                                    have qy1_13 := y1.c13
                                    have qy1_14 := y1.c14
                                    have qx7_0 := x7.c0
                                    have qx7_1 := x7.c1
                                    go_wp2_with fail
                                    ((with_reducible refine (S2.out.of hG hb).mono ?_); rintro e w6 ⟨rfl, hb6⟩)
                                    clear qy1_0 qy1_1 qy1_2 qy1_3 qy1_4 qy1_5 qy1_6 qy1_7 qy1_8 qy1_9 qy1_10 qy1_11 qy1_12 qy1_13 qy1_14 qx7_0 qx7_1
                                    replace y1 := y1.below hb6
                                    replace x7 := x7.below hb6
                                    replace hb := bto hb hb6
                                    clear hb6
                                    have qy1_0 := y1.c0
                                    have qy1_1 := y1.c1
                                    have qy1_2 := y1.c2
                                    have qy1_3 := y1.c3
                                    have qy1_4 := y1.c4
                                    have qy1_5 := y1.c5
                                    have qy1_6 := y1.c6
                                    have qy1_7 := y1.c7
                                    have qy1_8 := y1.c8
                                    have qy1_9 := y1.c9
                                    have qy1_10 := y1.c10
                                    have qy1_11 := y1.c11
                                    have qy1_12 := y1.c12
                                    have qy1_13 := y1.c13
                                    have qy1_14 := y1.c14
                                    have qx7_0 := x7.c0
                                    have qx7_1 := x7.c1
                                    go_wp2
                                    go_ret
                                    exact ⟨reti (HV.out.trans HO.out).symm, hb⟩
                                  · have ba2 : decide (sg x.cn < 0) = false := decide_eq_false a2
                                    by_cases a4 : x.count < 1
                                    · have ba4 : decide (x.count < 1) = true := decide_eq_true a4
                                      have HO : Hid (tailE x = 2) := by show _ = _; rw [HQ.out]; rw [HO2.out]; unfold bondE; exact if_pos (.inr (.inr (.inr (.inl a4))))
                                      clear a1 a2 a4
                                      have qy1_0 := y1.c0
                                      have qy1_1 := y1.c1
                                      have qy1_2 := y1.c2
                                      have qy1_3 := y1.c3
                                      have qy1_4 := y1.c4
                                      have qy1_5 := y1.c5
                                      have qy1_6 := y1.c6
                                      have qy1_7 := y1.c7
                                      have qy1_8 := y1.c8
                                      have qy1_9 := y1.c9
                                      have qy1_10 := y1.c10
                                      have qy1_11 := y1.c11
                                      have qy1_12 := y1.c12
                                      have qy1_13 := y1.c13
                                      have qy1_14 := y1.c14
                                      have qx7_0 := x7.c0
                                      have qx7_1 := x7.c1
                                      go_wp2_with fail
                                      ((with_reducible refine (S1.out.of hG hb).mono ?_); rintro e w5 ⟨rfl, hb5⟩)
                                      clear qy1_0 qy1_1 qy1_2 qy1_3 qy1_4 qy1_5 qy1_6 qy1_7 qy1_8 qy1_9 qy1_10 qy1_11 qy1_12 qy1_13 qy1_14 qx7_0 qx7_1
                                      replace y1 := y1.below hb5
                                      replace x7 := x7.below hb5
                                      replace hb := bto hb hb5
                                      clear hb5
                                      have qy1_0 := y1.c0
                                      have qy1_1 := y1.c1
                                      have qy1_2 := y1.c2
                                      have qy1_3 := y1.c3
                                      have qy1_4 := y1.c4
                                      have qy1_5 := y1.c5
                                      have qy1_6 := y1.c6
                                      have qy1_7 := y1.c7
                                      have qy1_8 := y1.c8
                                      have qy1_9 := y1.c9
                                      have qy1_10 := y1.c10
                                      have qy1_11 := y1.c11
                                      have qy1_12 := y1.c12
                                      have qy1_13 := y1.c13
                                      have qy1_14 := y1.c14
                                      have qx7_0 := x7.c0
                                      have qx7_1 := x7.c1
                                      go_wp2_with fail
                                      ((with_reducible refine (S2.out.of hG hb).mono ?_); rintro e w6 ⟨rfl, hb6⟩)
                                      clear qy1_0 qy1_1 qy1_2 qy1_3 qy1_4 qy1_5 qy1_6 qy1_7 qy1_8 qy1_9 qy1_10 qy1_11 qy1_12 qy1_13 qy1_14 qx7_0 qx7_1
                                      replace y1 := y1.below hb6
                                      replace x7 := x7.below hb6
                                      replace hb := bto hb hb6
                                      clear hb6
                                      have qy1_0 := y1.c0
                                      have qy1_1 := y1.c1
                                      have qy1_2 := y1.c2
                                      have qy1_3 := y1.c3
                                      have qy1_4 := y1.c4
                                      have qy1_5 := y1.c5
                                      have qy1_6 := y1.c6
                                      have qy1_7 := y1.c7
                                      have qy1_8 := y1.c8
                                      have qy1_9 := y1.c9
                                      have qy1_10 := y1.c10
                                      have qy1_11 := y1.c11
                                      have qy1_12 := y1.c12
                                      have qy1_13 := y1.c13
                                      have qy1_14 := y1.c14
                                      have qx7_0 := x7.c0
                                      have qx7_1 := x7.c1
                                      go_wp2
                                      go_ret
                                      exact ⟨reti (HV.out.trans HO.out).symm, hb⟩
                                    · have ba4 : decide (x.count < 1) = false := decide_eq_false a4
                                      by_cases a5 : 5 < x.count
                                      · have ba5 : decide (5 < x.count) = true := decide_eq_true a5
                                        have HO : Hid (tailE x = 2) := by show _ = _; rw [HQ.out]; rw [HO2.out]; unfold bondE; exact if_pos (.inr (.inr (.inr (.inr a5))))
                                        clear a1 a2 a4 a5
                                        have qy1_0 := y1.c0
                                        have qy1_1 := y1.c1
                                        have qy1_2 := y1.c2
                                        have qy1_3 := y1.c3
                                        have qy1_4 := y1.c4
                                        have qy1_5 := y1.c5
                                        have qy1_6 := y1.c6
                                        have qy1_7 := y1.c7
                                        have qy1_8 := y1.c8
                                        have qy1_9 := y1.c9
                                        have qy1_10 := y1.c10
                                        have qy1_11 := y1.c11
                                        have qy1_12 := y1.c12
                                        have qy1_13 := y1.c13
                                        have qy1_14 := y1.c14
                                        have qx7_0 := x7.c0
                                        have qx7_1 := x7.c1
                                        go_wp2_with fail
                                        ((with_reducible refine (S1.out.of hG hb).mono ?_); rintro e w5 ⟨rfl, hb5⟩)
                                        clear qy1_0 qy1_1 qy1_2 qy1_3 qy1_4 qy1_5 qy1_6 qy1_7 qy1_8 qy1_9 qy1_10 qy1_11 qy1_12 qy1_13 qy1_14 qx7_0 qx7_1
                                        replace y1 := y1.below hb5
                                        replace x7 := x7.below hb5
                                        replace hb := bto hb hb5
                                        clear hb5
                                        have qy1_0 := y1.c0
                                        have qy1_1 := y1.c1
                                        have qy1_2 := y1.c2
                                        have qy1_3 := y1.c3
                                        have qy1_4 := y1.c4
                                        have qy1_5 := y1.c5
                                        have qy1_6 := y1.c6
                                        have qy1_7 := y1.c7
                                        have qy1_8 := y1.c8
                                        have qy1_9 := y1.c9
                                        have qy1_10 := y1.c10
                                        have qy1_11 := y1.c11
                                        have qy1_12 := y1.c12
                                        have qy1_13 := y1.c13
                                        have qy1_14 := y1.c14
                                        have qx7_0 := x7.c0
                                        have qx7_1 := x7.c1
                                        go_wp2_with fail
                                        ((with_reducible refine (S2.out.of hG hb).mono ?_); rintro e w6 ⟨rfl, hb6⟩)
                                        clear qy1_0 qy1_1 qy1_2 qy1_3 qy1_4 qy1_5 qy1_6 qy1_7 qy1_8 qy1_9 qy1_10 qy1_11 qy1_12 qy1_13 qy1_14 qx7_0 qx7_1
                                        replace y1 := y1.below hb6
                                        replace x7 := x7.below hb6
                                        replace hb := bto hb hb6
                                        clear hb6
                                        have qy1_0 := y1.c0
                                        have qy1_1 := y1.c1
                                        have qy1_2 := y1.c2
                                        have qy1_3 := y1.c3
                                        have qy1_4 := y1.c4
                                        have qy1_5 := y1.c5
                                        have qy1_6 := y1.c6
                                        have qy1_7 := y1.c7
                                        have qy1_8 := y1.c8
                                        have qy1_9 := y1.c9
                                        have qy1_10 := y1.c10
                                        have qy1_11 := y1.c11
                                        have qy1_12 := y1.c12
                                        have qy1_13 := y1.c13
                                        have qy1_14 := y1.c14
                                        have qx7_0 := x7.c0
                                        have qx7_1 := x7.c1
                                        go_wp2
                                        go_ret
                                        exact ⟨reti (HV.out.trans HO.out).symm, hb⟩
                                      · have ba5 : decide (5 < x.count) = false := decide_eq_false a5
                                        by_cases a6 : x.other = []
                                        · have ba6 : (x.other == []) = true := by rw [beq_iff_eq]; exact a6
                                          have ea6 : (x.other).isEmpty = true := by rw [List.isEmpty_iff]; exact a6
                                          by_cases a7 : sg x.sn = 0
                                          · have ba7 := (sg_zero ZC.out a7).1
                                            have ca7 := (sg_zero ZC.out a7).2
                                            have HO : Hid (tailE x = 0) := by show _ = _; rw [HQ.out]; rw [HO2.out]; unfold bondE; rw [if_neg (fun h => h.elim a1 (fun h => h.elim a2 (fun h => h.elim (fun h => h HB.out) (fun h => h.elim a4 a5))))]; exact if_neg (fun h => h.elim (fun h => h a6) (fun h => h a7))
                                            clear a1 a2 a4 a5 a6 a7
                                            have qy1_0 := y1.c0
                                            have qy1_1 := y1.c1
                                            have qy1_2 := y1.c2
                                            have qy1_3 := y1.c3
                                            have qy1_4 := y1.c4
                                            have qy1_5 := y1.c5
                                            have qy1_6 := y1.c6
                                            have qy1_7 := y1.c7
                                            have qy1_8 := y1.c8
                                            have qy1_9 := y1.c9
                                            have qy1_10 := y1.c10
                                            have qy1_11 := y1.c11
                                            have qy1_12 := y1.c12
                                            have qy1_13 := y1.c13
                                            have qy1_14 := y1.c14
                                            have qx7_0 := x7.c0
                                            have qx7_1 := x7.c1
                                            go_wp2_with fail
                                            ((with_reducible refine (S1.out.of hG hb).mono ?_); rintro e w5 ⟨rfl, hb5⟩)
                                            clear qy1_0 qy1_1 qy1_2 qy1_3 qy1_4 qy1_5 qy1_6 qy1_7 qy1_8 qy1_9 qy1_10 qy1_11 qy1_12 qy1_13 qy1_14 qx7_0 qx7_1
                                            replace y1 := y1.below hb5
                                            replace x7 := x7.below hb5
                                            replace hb := bto hb hb5
                                            clear hb5
                                            have qy1_0 := y1.c0
                                            have qy1_1 := y1.c1
                                            have qy1_2 := y1.c2
                                            have qy1_3 := y1.c3
                                            have qy1_4 := y1.c4
                                            have qy1_5 := y1.c5
                                            have qy1_6 := y1.c6
                                            have qy1_7 := y1.c7
                                            have qy1_8 := y1.c8
                                            have qy1_9 := y1.c9
                                            have qy1_10 := y1.c10
                                            have qy1_11 := y1.c11
                                            have qy1_12 := y1.c12
                                            have qy1_13 := y1.c13
                                            have qy1_14 := y1.c14
                                            have qx7_0 := x7.c0
                                            have qx7_1 := x7.c1
                                            go_wp2_with fail
                                            ((with_reducible refine (S2.out.of hG hb).mono ?_); rintro e w6 ⟨rfl, hb6⟩)
                                            clear qy1_0 qy1_1 qy1_2 qy1_3 qy1_4 qy1_5 qy1_6 qy1_7 qy1_8 qy1_9 qy1_10 qy1_11 qy1_12 qy1_13 qy1_14 qx7_0 qx7_1
                                            replace y1 := y1.below hb6
                                            replace x7 := x7.below hb6
                                            replace hb := bto hb hb6
                                            clear hb6
                                            have qy1_0 := y1.c0
                                            have qy1_1 := y1.c1
                                            have qy1_2 := y1.c2
                                            have qy1_3 := y1.c3
                                            have qy1_4 := y1.c4
                                            have qy1_5 := y1.c5
                                            have qy1_6 := y1.c6
                                            have qy1_7 := y1.c7
                                            have qy1_8 := y1.c8
                                            have qy1_9 := y1.c9
                                            have qy1_10 := y1.c10
                                            have qy1_11 := y1.c11
                                            have qy1_12 := y1.c12
                                            have qy1_13 := y1.c13
                                            have qy1_14 := y1.c14
                                            have qx7_0 := x7.c0
                                            have qx7_1 := x7.c1
                                            go_wp2
                                            go_ret
                                            exact ⟨reti (HV.out.trans HO.out).symm, hb⟩
                                          · have ba7 := sg_nil a7
                                            have HO : Hid (tailE x = 1) := by show _ = _; rw [HQ.out]; rw [HO2.out]; unfold bondE; rw [if_neg (fun h => h.elim a1 (fun h => h.elim a2 (fun h => h.elim (fun h => h HB.out) (fun h => h.elim a4 a5))))]; exact if_pos (.inr a7)
                                            clear a1 a2 a4 a5 a6 a7
                                            have qy1_0 := y1.c0
                                            have qy1_1 := y1.c1
                                            have qy1_2 := y1.c2
                                            have qy1_3 := y1.c3
                                            have qy1_4 := y1.c4
                                            have qy1_5 := y1.c5
                                            have qy1_6 := y1.c6
                                            have qy1_7 := y1.c7
                                            have qy1_8 := y1.c8
                                            have qy1_9 := y1.c9
                                            have qy1_10 := y1.c10
                                            have qy1_11 := y1.c11
                                            have qy1_12 := y1.c12
                                            have qy1_13 := y1.c13
                                            have qy1_14 := y1.c14
                                            have qx7_0 := x7.c0
                                            have qx7_1 := x7.c1
                                            go_wp2_with fail
                                            ((with_reducible refine (S1.out.of hG hb).mono ?_); rintro e w5 ⟨rfl, hb5⟩)
                                            clear qy1_0 qy1_1 qy1_2 qy1_3 qy1_4 qy1_5 qy1_6 qy1_7 qy1_8 qy1_9 qy1_10 qy1_11 qy1_12 qy1_13 qy1_14 qx7_0 qx7_1
                                            replace y1 := y1.below hb5
                                            replace x7 := x7.below hb5
                                            replace hb := bto hb hb5
                                            clear hb5
                                            have qy1_0 := y1.c0
                                            have qy1_1 := y1.c1
                                            have qy1_2 := y1.c2
                                            have qy1_3 := y1.c3
                                            have qy1_4 := y1.c4
                                            have qy1_5 := y1.c5
                                            have qy1_6 := y1.c6
                                            have qy1_7 := y1.c7
                                            have qy1_8 := y1.c8
                                            have qy1_9 := y1.c9
                                            have qy1_10 := y1.c10
                                            have qy1_11 := y1.c11
                                            have qy1_12 := y1.c12
                                            have qy1_13 := y1.c13
                                            have qy1_14 := y1.c14
                                            have qx7_0 := x7.c0
                                            have qx7_1 := x7.c1
                                            go_wp2_with fail
                                            ((with_reducible refine (S2.out.of hG hb).mono ?_); rintro e w6 ⟨rfl, hb6⟩)
                                            clear qy1_0 qy1_1 qy1_2 qy1_3 qy1_4 qy1_5 qy1_6 qy1_7 qy1_8 qy1_9 qy1_10 qy1_11 qy1_12 qy1_13 qy1_14 qx7_0 qx7_1
                                            replace y1 := y1.below hb6
                                            replace x7 := x7.below hb6
                                            replace hb := bto hb hb6
                                            clear hb6
                                            have qy1_0 := y1.c0
                                            have qy1_1 := y1.c1
                                            have qy1_2 := y1.c2
                                            have qy1_3 := y1.c3
                                            have qy1_4 := y1.c4
                                            have qy1_5 := y1.c5
                                            have qy1_6 := y1.c6
                                            have qy1_7 := y1.c7
                                            have qy1_8 := y1.c8
                                            have qy1_9 := y1.c9
                                            have qy1_10 := y1.c10
                                            have qy1_11 := y1.c11
                                            have qy1_12 := y1.c12
                                            have qy1_13 := y1.c13
                                            have qy1_14 := y1.c14
                                            have qx7_0 := x7.c0
                                            have qx7_1 := x7.c1
                                            go_wp2
                                            go_ret
                                            exact ⟨reti (HV.out.trans HO.out).symm, hb⟩
                                        · have ba6 : (x.other == []) = false := by rw [beq_eq_false_iff_ne]; exact a6
                                          have ea6 : (x.other).isEmpty = false := by rw [List.isEmpty_eq_false_iff]; exact a6
                                          have HO : Hid (tailE x = 1) := by show _ = _; rw [HQ.out]; rw [HO2.out]; unfold bondE; rw [if_neg (fun h => h.elim a1 (fun h => h.elim a2 (fun h => h.elim (fun h => h HB.out) (fun h => h.elim a4 a5))))]; exact if_pos (.inl a6)
                                          clear a1 a2 a4 a5 a6
                                          have qy1_0 := y1.c0
                                          have qy1_1 := y1.c1
                                          have qy1_2 := y1.c2
                                          have qy1_3 := y1.c3
                                          have qy1_4 := y1.c4
                                          have qy1_5 := y1.c5
                                          have qy1_6 := y1.c6
                                          have qy1_7 := y1.c7
                                          have qy1_8 := y1.c8
                                          have qy1_9 := y1.c9
                                          have qy1_10 := y1.c10
                                          have qy1_11 := y1.c11
                                          have qy1_12 := y1.c12
                                          have qy1_13 := y1.c13
                                          have qy1_14 := y1.c14
                                          have qx7_0 := x7.c0
                                          have qx7_1 := x7.c1
                                          go_wp2_with fail
                                          ((with_reducible refine (S1.out.of hG hb).mono ?_); rintro e w5 ⟨rfl, hb5⟩)
                                          clear qy1_0 qy1_1 qy1_2 qy1_3 qy1_4 qy1_5 qy1_6 qy1_7 qy1_8 qy1_9 qy1_10 qy1_11 qy1_12 qy1_13 qy1_14 qx7_0 qx7_1
                                          replace y1 := y1.below hb5
                                          replace x7 := x7.below hb5
                                          replace hb := bto hb hb5
                                          clear hb5
                                          have qy1_0 := y1.c0
                                          have qy1_1 := y1.c1
                                          have qy1_2 := y1.c2
                                          have qy1_3 := y1.c3
                                          have qy1_4 := y1.c4
                                          have qy1_5 := y1.c5
                                          have qy1_6 := y1.c6
                                          have qy1_7 := y1.c7
                                          have qy1_8 := y1.c8
                                          have qy1_9 := y1.c9
                                          have qy1_10 := y1.c10
                                          have qy1_11 := y1.c11
                                          have qy1_12 := y1.c12
                                          have qy1_13 := y1.c13
                                          have qy1_14 := y1.c14
                                          have qx7_0 := x7.c0
                                          have qx7_1 := x7.c1
                                          go_wp2_with fail
                                          ((with_reducible refine (S2.out.of hG hb).mono ?_); rintro e w6 ⟨rfl, hb6⟩)
                                          clear qy1_0 qy1_1 qy1_2 qy1_3 qy1_4 qy1_5 qy1_6 qy1_7 qy1_8 qy1_9 qy1_10 qy1_11 qy1_12 qy1_13 qy1_14 qx7_0 qx7_1
                                          replace y1 := y1.below hb6
                                          replace x7 := x7.below hb6
                                          replace hb := bto hb hb6
                                          clear hb6
                                          have qy1_0 := y1.c0
                                          have qy1_1 := y1.c1
                                          have qy1_2 := y1.c2
                                          have qy1_3 := y1.c3
                                          have qy1_4 := y1.c4
                                          have qy1_5 := y1.c5
                                          have qy1_6 := y1.c6
                                          have qy1_7 := y1.c7
                                          have qy1_8 := y1.c8
                                          have qy1_9 := y1.c9
                                          have qy1_10 := y1.c10
                                          have qy1_11 := y1.c11
                                          have qy1_12 := y1.c12
                                          have qy1_13 := y1.c13
                                          have qy1_14 := y1.c14
                                          have qx7_0 := x7.c0
                                          have qx7_1 := x7.c1
                                          go_wp2
                                          go_ret
                                          exact ⟨reti (HV.out.trans HO.out).symm, hb⟩
                              · by_cases a1 : sg x.fn ≤ 0
                                · have ba1 : decide (sg x.fn ≤ 0) = true := decide_eq_true a1
                                  have HO : Hid (tailE x = 2) := by show _ = _; rw [HQ.out]; rw [HO2.out]; unfold bondE; exact if_pos (.inl a1)
                                  have qy1_0 := y1.c0
                                  have qy1_1 := y1.c1
                                  have qy1_2 := y1.c2
                                  have qy1_3 := y1.c3
                                  have qy1_4 := y1.c4
                                  have qy1_5 := y1.c5
                                  have qy1_6 := y1.c6
                                  have qy1_7 := y1.c7
                                  have qy1_8 := y1.c8
                                  have qy1_9 := y1.c9
                                  have qy1_10 := y1.c10
                                  have qy1_11 := y1.c11
                                  have qy1_12 := y1.c12
                                  have qy1_13 := y1.c13
                                  have qy1_14 := y1.c14
                                  have qx7_0 := x7.c0
                                  have qx7_1 := x7.c1
                                  go_wp2_with fail
                                  ((with_reducible refine (S1.out.of hG hb).mono ?_); rintro e w5 ⟨rfl, hb5⟩)
                                  clear qy1_0 qy1_1 qy1_2 qy1_3 qy1_4 qy1_5 qy1_6 qy1_7 qy1_8 qy1_9 qy1_10 qy1_11 qy1_12 qy1_13 qy1_14 qx7_0 qx7_1
                                  replace y1 := y1.below hb5
                                  replace x7 := x7.below hb5
                                  replace hb := bto hb hb5
                                  clear hb5
                                  have qy1_0 := y1.c0
                                  have qy1_1 := y1.c1
                                  have qy1_2 := y1.c2
                                  have qy1_3 := y1.c3
                                  have qy1_4 := y1.c4
                                  have qy1_5 := y1.c5
                                  have qy1_6 := y1.c6
                                  have qy1_7 := y1.c7
                                  have qy1_8 := y1.c8
                                  have qy1_9 := y1.c9
                                  have qy1_10 := y1.c10
                                  have qy1_11 := y1.c11
                                  have qy1_12 := y1.c12
                                  have qy1_13 := y1.c13
                                  have qy1_14 := y1.c14
                                  have qx7_0 := x7.c0
                                  have qx7_1 := x7.c1
                                  go_wp2
                                  go_ret
                                  exact ⟨reti (HV.out.trans HO.out).symm, hb⟩
                                · have ba1 : decide (sg x.fn ≤ 0) = false := decide_eq_false a1
                                  by_cases a2 : sg x.cn < 0
                                  · have ba2 : decide (sg x.cn < 0) = true := decide_eq_true a2
                                    have HO : Hid (tailE x = 2) := by show _ = _; rw [HQ.out]; rw [HO2.out]; unfold bondE; exact if_pos (.inr (.inl a2))
                                    have qy1_0 := y1.c0
                                    have qy1_1 := y1.c1
                                    have qy1_2 := y1.c2
                                    have qy1_3 := y1.c3
                                    have qy1_4 := y1.c4
                                    have qy1_5 := y1.c5
                                    have qy1_6 := y1.c6
                                    have qy1_7 := y1.c7
                                    have qy1_8 := y1.c8
                                    have qy1_9 := y1.c9
                                    have qy1_10 := y1.c10
                                    have qy1_11 := y1.c11
                                    have qy1_12 := y1.c12
                                    have qy1_13 := y1.c13
                                    have qy1_14 := y1.c14
                                    have qx7_0 := x7.c0
                                    have qx7_1 := x7.c1
                                    go_wp2_with fail
                                    ((with_reducible refine (S1.out.of hG hb).mono ?_); rintro e w5 ⟨rfl, hb5⟩)
                                    clear qy1_0 qy1_1 qy1_2 qy1_3 qy1_4 qy1_5 qy1_6 qy1_7 qy1_8 qy1_9 qy1_10 qy1_11 qy1_12 qy1_13 qy1_14 qx7_0 qx7_1
                                    replace y1 := y1.below hb5
                                    replace x7 := x7.below hb5
                                    replace hb := bto hb hb5
                                    clear hb5
                                    have qy1_0 := y1.c0
                                    have qy1_1 := y1.c1
                                    have qy1_2 := y1.c2
                                    have qy1_3 := y1.c3
                                    have qy1_4 := y1.c4
                                    have qy1_5 := y1.c5
                                    have qy1_6 := y1.c6
                                    have qy1_7 := y1.c7
                                    have qy1_8 := y1.c8
                                    have qy1_9 := y1.c9
                                    have qy1_10 := y1.c10
                                    have qy1_11 := y1.c11
                                    have qy1_12 := y1.c12
                                    have qy1_13 := y1.c13
                                    have qy1_14 := y1.c14
                                    have qx7_0 := x7.c0
                                    have qx7_1 := x7.c1
                                    go_wp2_with fail
                                    ((with_reducible refine (S2.out.of hG hb).mono ?_); rintro e w6 ⟨rfl, hb6⟩)
                                    clear qy1_0 qy1_1 qy1_2 qy1_3 qy1_4 qy1_5 qy1_6 qy1_7 qy1_8 qy1_9 qy1_10 qy1_11 qy1_12 qy1_13 qy1_14 qx7_0 qx7_1
                                    replace y1 := y1.below hb6
                                    replace x7 := x7.below hb6
                                    replace hb := bto hb hb6
                                    clear hb6
                                    have qy1_0 := y1.c0
                                    have qy1_1 := y1.c1
                                    have qy1_2 := y1.c2
                                    have qy1_3 := y1.c3
                                    have qy1_4 := y1.c4
                                    have qy1_5 := y1.c5
                                    have qy1_6 := y1.c6
                                    have qy1_7 := y1.c7
                                    have qy1_8 := y1.c8
                                    have qy1_9 := y1.c9
                                    have qy1_10 := y1.c10
                                    have qy1_11 := y1.c11
                                    have qy1_12 := y1.c12
                                    have qy1_13 := y1.c13
                                    have qy1_14 := y1.c14
                                    have qx7_0 := x7.c0
                                    have qx7_1 := x7.c1
                                    go_wp2
                                    go_ret
                                    exact ⟨reti (HV.out.trans HO.out).symm, hb⟩
                                  · have ba2 : decide (sg x.cn < 0) = false := decide_eq_false a2
                                    have HO : Hid (tailE x = 2) := by show _ = _; rw [HQ.out]; rw [HO2.out]; unfold bondE; exact if_pos (.inr (.inr (.inl (by rw [HB.out]; decide))))
                                    have qy1_0 := y1.c0
                                    have qy1_1 := y1.c1
                                    have qy1_2 := y1.c2
                                    have qy1_3 := y1.c3
                                    have qy1_4 := y1.c4
                                    have qy1_5 := y1.c5
                                    have qy1_6 := y1.c6
                                    have qy1_7 := y1.c7
                                    have qy1_8 := y1.c8
                                    have qy1_9 := y1.c9
                                    have qy1_10 := y1.c10
                                    have qy1_11 := y1.c11
                                    have qy1_12 := y1.c12
                                    have qy1_13 := y1.c13
                                    have qy1_14 := y1.c14
                                    have qx7_0 := x7.c0
                                    have qx7_1 := x7.c1
                                    go_wp2_with fail
                                    ((with_reducible refine (S1.out.of hG hb).mono ?_); rintro e w5 ⟨rfl, hb5⟩)
                                    clear qy1_0 qy1_1 qy1_2 qy1_3 qy1_4 qy1_5 qy1_6 qy1_7 qy1_8 qy1_9 qy1_10 qy1_11 qy1_12 qy1_13 qy1_14 qx7_0 qx7_1
                                    replace y1 := y1.below hb5
                                    replace x7 := x7.below hb5
                                    replace hb := bto hb hb5
                                    clear hb5
                                    have qy1_0 := y1.c0
                                    have qy1_1 := y1.c1
                                    have qy1_2 := y1.c2
                                    have qy1_3 := y1.c3
                                    have qy1_4 := y1.c4
                                    have qy1_5 := y1.c5
                                    have qy1_6 := y1.c6
                                    have qy1_7 := y1.c7
                                    have qy1_8 := y1.c8
                                    have qy1_9 := y1.c9
                                    have qy1_10 := y1.c10
                                    have qy1_11 := y1.c11
                                    have qy1_12 := y1.c12
                                    have qy1_13 := y1.c13
                                    have qy1_14 := y1.c14
                                    have qx7_0 := x7.c0
                                    have qx7_1 := x7.c1
                                    go_wp2_with fail
                                    ((with_reducible refine (S2.out.of hG hb).mono ?_); rintro e w6 ⟨rfl, hb6⟩)
                                    clear qy1_0 qy1_1 qy1_2 qy1_3 qy1_4 qy1_5 qy1_6 qy1_7 qy1_8 qy1_9 qy1_10 qy1_11 qy1_12 qy1_13 qy1_14 qx7_0 qx7_1
                                    replace y1 := y1.below hb6
                                    replace x7 := x7.below hb6
                                    replace hb := bto hb hb6
                                    clear hb6
                                    have qy1_0 := y1.c0
                                    have qy1_1 := y1.c1
                                    have qy1_2 := y1.c2
                                    have qy1_3 := y1.c3
                                    have qy1_4 := y1.c4
                                    have qy1_5 := y1.c5
                                    have qy1_6 := y1.c6
                                    have qy1_7 := y1.c7
                                    have qy1_8 := y1.c8
                                    have qy1_9 := y1.c9
                                    have qy1_10 := y1.c10
                                    have qy1_11 := y1.c11
                                    have qy1_12 := y1.c12
                                    have qy1_13 := y1.c13
                                    have qy1_14 := y1.c14
                                    have qx7_0 := x7.c0
                                    have qx7_1 := x7.c1
                                    go_wp2
                                    go_ret
                                    exact ⟨reti (HV.out.trans HO.out).symm, hb⟩
                          · have e2 : (x.kind == 2) = false := by rw [beq_eq_false_iff_ne]; exact k2
                            by_cases k5 : x.kind = 5
                            · have e5 : (x.kind == 5) = true := by rw [beq_iff_eq]; exact k5
                              have HO2 : Hid (ownE x = fwdE x) := by show _ = _; unfold ownE; rw [if_neg k2, if_pos k5]
                              clear k2 k5
                              by_cases a1 : codeB x.other = true
                              · have ba1 := a1
                                by_cases a7 : x.other = x.cur
                                · have ba7 : (x.other == x.cur) = true := by rw [beq_iff_eq]; exact a7
                                  have HO : Hid (tailE x = 12) := by show _ = _; rw [HQ.out]; rw [HO2.out]; unfold fwdE; exact if_pos (.inr a7)
                                  clear a1 a7
                                  have qy1_0 := y1.c0
                                  have qy1_1 := y1.c1
                                  have qy1_2 := y1.c2
                                  have qy1_3 := y1.c3
                                  have qy1_4 := y1.c4
                                  have qy1_5 := y1.c5
                                  have qy1_6 := y1.c6
                                  have qy1_7 := y1.c7
                                  have qy1_8 := y1.c8
                                  have qy1_9 := y1.c9
                                  have qy1_10 := y1.c10
                                  have qy1_11 := y1.c11
                                  have qy1_12 := y1.c12
                                  have qy1_13 := y1.c13
                                  have qy1_14 := y1.c14
                                  have qx7_0 := x7.c0
                                  have qx7_1 := x7.c1
                                  go_wp2_with fail
                                  ((with_reducible refine (C5.out.of hG hb).mono ?_); rintro e w5 ⟨rfl, hb5⟩)
                                  clear qy1_0 qy1_1 qy1_2 qy1_3 qy1_4 qy1_5 qy1_6 qy1_7 qy1_8 qy1_9 qy1_10 qy1_11 qy1_12 qy1_13 qy1_14 qx7_0 qx7_1
                                  replace y1 := y1.below hb5
                                  replace x7 := x7.below hb5
                                  replace hb := bto hb hb5
                                  clear hb5
                                  have qy1_0 := y1.c0
                                  have qy1_1 := y1.c1
                                  have qy1_2 := y1.c2
                                  have qy1_3 := y1.c3
                                  have qy1_4 := y1.c4
                                  have qy1_5 := y1.c5
                                  have qy1_6 := y1.c6
                                  have qy1_7 := y1.c7
                                  have qy1_8 := y1.c8
                                  have qy1_9 := y1.c9
                                  have qy1_10 := y1.c10
                                  have qy1_11 := y1.c11
                                  have qy1_12 := y1.c12
                                  have qy1_13 := y1.c13
                                  have qy1_14 := y1.c14
                                  have qx7_0 := x7.c0
                                  have qx7_1 := x7.c1
                                  go_wp2
                                  go_ret
                                  exact ⟨reti (HV.out.trans HO.out).symm, hb⟩
                                · have ba7 : (x.other == x.cur) = false := by rw [beq_eq_false_iff_ne]; exact a7
                                  by_cases a2 : sg x.sn ≤ 0
                                  · have ba2 : decide (sg x.sn ≤ 0) = true := decide_eq_true a2
                                    have HO : Hid (tailE x = 2) := by show _ = _; rw [HQ.out]; rw [HO2.out]; unfold fwdE; rw [if_neg (fun h => h.elim (fun h => h a1) a7)]; exact if_pos a2
                                    clear a1 a7 a2
                                    have qy1_0 := y1.c0
                                    have qy1_1 := y1.c1
                                    have qy1_2 := y1.c2
                                    have qy1_3 := y1.c3
                                    have qy1_4 := y1.c4
                                    have qy1_5 := y1.c5
                                    have qy1_6 := y1.c6
                                    have qy1_7 := y1.c7
                                    have qy1_8 := y1.c8
                                    have qy1_9 := y1.c9
                                    have qy1_10 := y1.c10
                                    have qy1_11 := y1.c11
                                    have qy1_12 := y1.c12
                                    have qy1_13 := y1.c13
                                    have qy1_14 := y1.c14
                                    have qx7_0 := x7.c0
                                    have qx7_1 := x7.c1
                                    go_wp2_with fail
                                    ((with_reducible refine (C5.out.of hG hb).mono ?_); rintro e w5 ⟨rfl, hb5⟩)
                                    clear qy1_0 qy1_1 qy1_2 qy1_3 qy1_4 qy1_5 qy1_6 qy1_7 qy1_8 qy1_9 qy1_10 qy1_11 qy1_12 qy1_13 qy1_14 qx7_0 qx7_1
                                    replace y1 := y1.below hb5
                                    replace x7 := x7.below hb5
                                    replace hb := bto hb hb5
                                    clear hb5
                                    have qy1_0 := y1.c0
                                    have qy1_1 := y1.c1
                                    have qy1_2 := y1.c2
                                    have qy1_3 := y1.c3
                                    have qy1_4 := y1.c4
                                    have qy1_5 := y1.c5
                                    have qy1_6 := y1.c6
                                    have qy1_7 := y1.c7
                                    have qy1_8 := y1.c8
                                    have qy1_9 := y1.c9
                                    have qy1_10 := y1.c10
                                    have qy1_11 := y1.c11
                                    have qy1_12 := y1.c12
                                    have qy1_13 := y1.c13
                                    have qy1_14 := y1.c14
                                    have qx7_0 := x7.c0
                                    have qx7_1 := x7.c1
                                    go_wp2_with fail
                                    ((with_reducible refine (S3.out.of hG hb).mono ?_); rintro e w6 ⟨rfl, hb6⟩)
                                    clear qy1_0 qy1_1 qy1_2 qy1_3 qy1_4 qy1_5 qy1_6 qy1_7 qy1_8 qy1_9 qy1_10 qy1_11 qy1_12 qy1_13 qy1_14 qx7_0 qx7_1
                                    replace y1 := y1.below hb6
                                    replace x7 := x7.below hb6
                                    replace hb := bto hb hb6
                                    clear hb6
                                    have qy1_0 := y1.c0
                                    have qy1_1 := y1.c1
                                    have qy1_2 := y1.c2
                                    have qy1_3 := y1.c3
                                    have qy1_4 := y1.c4
                                    have qy1_5 := y1.c5
                                    have qy1_6 := y1.c6
                                    have qy1_7 := y1.c7
                                    have qy1_8 := y1.c8
                                    have qy1_9 := y1.c9
                                    have qy1_10 := y1.c10
                                    have qy1_11 := y1.c11
                                    have qy1_12 := y1.c12
                                    have qy1_13 := y1.c13
                                    have qy1_14 := y1.c14
                                    have qx7_0 := x7.c0
                                    have qx7_1 := x7.c1
                                    go_wp2
                                    go_ret
                                    exact ⟨reti (HV.out.trans HO.out).symm, hb⟩
                                  · have ba2 : decide (sg x.sn ≤ 0) = false := decide_eq_false a2
                                    by_cases a3 : sg x.fn = 0
                                    · have ba3 := (sg_zero ZA.out a3).1
                                      have ca3 := (sg_zero ZA.out a3).2
                                      by_cases a4 : sg x.cn = 0
                                      · have ba4 := (sg_zero ZB.out a4).1
                                        have ca4 := (sg_zero ZB.out a4).2
                                        by_cases a5 : x.months = 0
                                        · have ba5 : (x.months == 0) = true := by rw [beq_iff_eq]; exact a5
                                          have na5 := bneq ba5
                                          by_cases a6 : x.count = 0
                                          · have ba6 : (x.count == 0) = true := by rw [beq_iff_eq]; exact a6
                                            have na6 := bneq ba6
                                            have HO : Hid (tailE x = 0) := by show _ = _; rw [HQ.out]; rw [HO2.out]; unfold fwdE; rw [if_neg (fun h => h.elim (fun h => h a1) a7), if_neg a2]; exact if_neg (fun h => h.elim (fun h => h a3) (fun h => h.elim (fun h => h a4) (fun h => h.elim (fun h => h a5) (fun h => h a6))))
                                            clear a1 a7 a2 a3 a4 a5 a6
                                            have qy1_0 := y1.c0
                                            have qy1_1 := y1.c1
                                            have qy1_2 := y1.c2
                                            have qy1_3 := y1.c3
                                            have qy1_4 := y1.c4
                                            have qy1_5 := y1.c5
                                            have qy1_6 := y1.c6
                                            have qy1_7 := y1.c7
                                            have qy1_8 := y1.c8
                                            have qy1_9 := y1.c9
                                            have qy1_10 := y1.c10
                                            have qy1_11 := y1.c11
                                            have qy1_12 := y1.c12
                                            have qy1_13 := y1.c13
                                            have qy1_14 := y1.c14
                                            have qx7_0 := x7.c0
                                            have qx7_1 := x7.c1
                                            go_wp2_with fail
                                            ((with_reducible refine (C5.out.of hG hb).mono ?_); rintro e w5 ⟨rfl, hb5⟩)
                                            clear qy1_0 qy1_1 qy1_2 qy1_3 qy1_4 qy1_5 qy1_6 qy1_7 qy1_8 qy1_9 qy1_10 qy1_11 qy1_12 qy1_13 qy1_14 qx7_0 qx7_1
                                            replace y1 := y1.below hb5
                                            replace x7 := x7.below hb5
                                            replace hb := bto hb hb5
                                            clear hb5
                                            have qy1_0 := y1.c0
                                            have qy1_1 := y1.c1
                                            have qy1_2 := y1.c2
                                            have qy1_3 := y1.c3
                                            have qy1_4 := y1.c4
                                            have qy1_5 := y1.c5
                                            have qy1_6 := y1.c6
                                            have qy1_7 := y1.c7
                                            have qy1_8 := y1.c8
                                            have qy1_9 := y1.c9
                                            have qy1_10 := y1.c10
                                            have qy1_11 := y1.c11
                                            have qy1_12 := y1.c12
                                            have qy1_13 := y1.c13
                                            have qy1_14 := y1.c14
                                            have qx7_0 := x7.c0
                                            have qx7_1 := x7.c1
                                            go_wp2_with fail
                                            ((with_reducible refine (S3.out.of hG hb).mono ?_); rintro e w6 ⟨rfl, hb6⟩)
                                            clear qy1_0 qy1_1 qy1_2 qy1_3 qy1_4 qy1_5 qy1_6 qy1_7 qy1_8 qy1_9 qy1_10 qy1_11 qy1_12 qy1_13 qy1_14 qx7_0 qx7_1
                                            replace y1 := y1.below hb6
                                            replace x7 := x7.below hb6
                                            replace hb := bto hb hb6
                                            clear hb6
                                            have qy1_0 := y1.c0
                                            have qy1_1 := y1.c1
                                            have qy1_2 := y1.c2
                                            have qy1_3 := y1.c3
                                            have qy1_4 := y1.c4
                                            have qy1_5 := y1.c5
                                            have qy1_6 := y1.c6
                                            have qy1_7 := y1.c7
                                            have qy1_8 := y1.c8
                                            have qy1_9 := y1.c9
                                            have qy1_10 := y1.c10
                                            have qy1_11 := y1.c11
                                            have qy1_12 := y1.c12
                                            have qy1_13 := y1.c13
                                            have qy1_14 := y1.c14
                                            have qx7_0 := x7.c0
                                            have qx7_1 := x7.c1
                                            go_wp2
                                            go_ret
                                            exact ⟨reti (HV.out.trans HO.out).symm, hb⟩
                                          · have ba6 : (x.count == 0) = false := by rw [beq_eq_false_iff_ne]; exact a6
                                            have na6 := bneq' ba6
                                            have HO : Hid (tailE x = 1) := by show _ = _; rw [HQ.out]; rw [HO2.out]; unfold fwdE; rw [if_neg (fun h => h.elim (fun h => h a1) a7), if_neg a2]; exact if_pos (.inr (.inr (.inr a6)))
                                            clear a1 a7 a2 a3 a4 a5 a6
                                            have qy1_0 := y1.c0
                                            have qy1_1 := y1.c1
                                            have qy1_2 := y1.c2
                                            have qy1_3 := y1.c3
                                            have qy1_4 := y1.c4
                                            have qy1_5 := y1.c5
                                            have qy1_6 := y1.c6
                                            have qy1_7 := y1.c7
                                            have qy1_8 := y1.c8
                                            have qy1_9 := y1.c9
                                            have qy1_10 := y1.c10
                                            have qy1_11 := y1.c11
                                            have qy1_12 := y1.c12
                                            have qy1_13 := y1.c13
                                            have qy1_14 := y1.c14
                                            have qx7_0 := x7.c0
                                            have qx7_1 := x7.c1
                                            go_wp2_with fail
                                            ((with_reducible refine (C5.out.of hG hb).mono ?_); rintro e w5 ⟨rfl, hb5⟩)
                                            clear qy1_0 qy1_1 qy1_2 qy1_3 qy1_4 qy1_5 qy1_6 qy1_7 qy1_8 qy1_9 qy1_10 qy1_11 qy1_12 qy1_13 qy1_14 qx7_0 qx7_1
                                            replace y1 := y1.below hb5
                                            replace x7 := x7.below hb5
                                            replace hb := bto hb hb5
                                            clear hb5
                                            have qy1_0 := y1.c0
                                            have qy1_1 := y1.c1
                                            have qy1_2 := y1.c2
                                            have qy1_3 := y1.c3
                                            have qy1_4 := y1.c4
                                            have qy1_5 := y1.c5
                                            have qy1_6 := y1.c6
                                            have qy1_7 := y1.c7
                                            have qy1_8 := y1.c8
                                            have qy1_9 := y1.c9
                                            have qy1_10 := y1.c10
                                            have qy1_11 := y1.c11
                                            have qy1_12 := y1.c12
                                            have qy1_13 := y1.c13
                                            have qy1_14 := y1.c14
                                            have qx7_0 := x7.c0
                                            have qx7_1 := x7.c1
                                            go_wp2_with fail
                                            ((with_reducible refine (S3.out.of hG hb).mono ?_); rintro e w6 ⟨rfl, hb6⟩)
                                            clear qy1_0 qy1_1 qy1_2 qy1_3 qy1_4 qy1_5 qy1_6 qy1_7 qy1_8 qy1_9 qy1_10 qy1_11 qy1_12 qy1_13 qy1_14 qx7_0 qx7_1
                                            replace y1 := y1.below hb6
                                            replace x7 := x7.below hb6
                                            replace hb := bto hb hb6
                                            clear hb6
                                            have qy1_0 := y1.c0
                                            have qy1_1 := y1.c1
                                            have qy1_2 := y1.c2
                                            have qy1_3 := y1.c3
                                            have qy1_4 := y1.c4
                                            have qy1_5 := y1.c5
                                            have qy1_6 := y1.c6
                                            have qy1_7 := y1.c7
                                            have qy1_8 := y1.c8
                                            have qy1_9 := y1.c9
                                            have qy1_10 := y1.c10
                                            have qy1_11 := y1.c11
                                            have qy1_12 := y1.c12
                                            have qy1_13 := y1.c13
                                            have qy1_14 := y1.c14
                                            have qx7_0 := x7.c0
                                            have qx7_1 := x7.c1
                                            go_wp2
                                            go_ret
                                            exact ⟨reti (HV.out.trans HO.out).symm, hb⟩
                                        · have ba5 : (x.months == 0) = false := by rw [beq_eq_false_iff_ne]; exact a5
                                          have na5 := bneq' ba5
                                          have HO : Hid (tailE x = 1) := by show _ = _; rw [HQ.out]; rw [HO2.out]; unfold fwdE; rw [if_neg (fun h => h.elim (fun h => h a1) a7), if_neg a2]; exact if_pos (.inr (.inr (.inl a5)))
                                          clear a1 a7 a2 a3 a4 a5
                                          have qy1_0 := y1.c0
                                          have qy1_1 := y1.c1
                                          have qy1_2 := y1.c2
                                          have qy1_3 := y1.c3
                                          have qy1_4 := y1.c4
                                          have qy1_5 := y1.c5
                                          have qy1_6 := y1.c6
                                          have qy1_7 := y1.c7
                                          have qy1_8 := y1.c8
                                          have qy1_9 := y1.c9
                                          have qy1_10 := y1.c10
                                          have qy1_11 := y1.c11
                                          have qy1_12 := y1.c12
                                          have qy1_13 := y1.c13
                                          have qy1_14 := y1.c14
                                          have qx7_0 := x7.c0
                                          have qx7_1 := x7.c1
                                          go_wp2_with fail
                                          ((with_reducible refine (C5.out.of hG hb).mono ?_); rintro e w5 ⟨rfl, hb5⟩)
                                          clear qy1_0 qy1_1 qy1_2 qy1_3 qy1_4 qy1_5 qy1_6 qy1_7 qy1_8 qy1_9 qy1_10 qy1_11 qy1_12 qy1_13 qy1_14 qx7_0 qx7_1
                                          replace y1 := y1.below hb5
                                          replace x7 := x7.below hb5
                                          replace hb := bto hb hb5
                                          clear hb5
                                          have qy1_0 := y1.c0
                                          have qy1_1 := y1.c1
                                          have qy1_2 := y1.c2
                                          have qy1_3 := y1.c3
                                          have qy1_4 := y1.c4
                                          have qy1_5 := y1.c5
                                          have qy1_6 := y1.c6
                                          have qy1_7 := y1.c7
                                          have qy1_8 := y1.c8
                                          have qy1_9 := y1.c9
                                          have qy1_10 := y1.c10
                                          have qy1_11 := y1.c11
                                          have qy1_12 := y1.c12
                                          have qy1_13 := y1.c13
                                          have qy1_14 := y1.c14
                                          have qx7_0 := x7.c0
                                          have qx7_1 := x7.c1
                                          go_wp2_with fail
                                          ((with_reducible refine (S3.out.of hG hb).mono ?_); rintro e w6 ⟨rfl, hb6⟩)
                                          clear qy1_0 qy1_1 qy1_2 qy1_3 qy1_4 qy1_5 qy1_6 qy1_7 qy1_8 qy1_9 qy1_10 qy1_11 qy1_12 qy1_13 qy1_14 qx7_0 qx7_1
                                          replace y1 := y1.below hb6
                                          replace x7 := x7.below hb6
                                          replace hb := bto hb hb6
                                          clear hb6
                                          have qy1_0 := y1.c0
                                          have qy1_1 := y1.c1
                                          have qy1_2 := y1.c2
                                          have qy1_3 := y1.c3
                                          have qy1_4 := y1.c4
                                          have qy1_5 := y1.c5
                                          have qy1_6 := y1.c6
                                          have qy1_7 := y1.c7
                                          have qy1_8 := y1.c8
                                          have qy1_9 := y1.c9
                                          have qy1_10 := y1.c10
                                          have qy1_11 := y1.c11
                                          have qy1_12 := y1.c12
                                          have qy1_13 := y1.c13
                                          have qy1_14 := y1.c14
                                          have qx7_0 := x7.c0
                                          have qx7_1 := x7.c1
                                          go_wp2
                                          go_ret
                                          exact ⟨reti (HV.out.trans HO.out).symm, hb⟩
                                      · have ba4 := sg_nil a4
                                        have HO : Hid (tailE x = 1) := by show _ = _; rw [HQ.out]; rw [HO2.out]; unfold fwdE; rw [if_neg (fun h => h.elim (fun h => h a1) a7), if_neg a2]; exact if_pos (.inr (.inl a4))
                                        clear a1 a7 a2 a3 a4
                                        have qy1_0 := y1.c0
                                        have qy1_1 := y1.c1
                                        have qy1_2 := y1.c2
                                        have qy1_3 := y1.c3
                                        have qy1_4 := y1.c4
                                        have qy1_5 := y1.c5
                                        have qy1_6 := y1.c6
                                        have qy1_7 := y1.c7
                                        have qy1_8 := y1.c8
                                        have qy1_9 := y1.c9
                                        have qy1_10 := y1.c10
                                        have qy1_11 := y1.c11
                                        have qy1_12 := y1.c12
                                        have qy1_13 := y1.c13
                                        have qy1_14 := y1.c14
                                        have qx7_0 := x7.c0
                                        have qx7_1 := x7.c1
                                        go_wp2_with fail
                                        ((with_reducible refine (C5.out.of hG hb).mono ?_); rintro e w5 ⟨rfl, hb5⟩)
                                        clear qy1_0 qy1_1 qy1_2 qy1_3 qy1_4 qy1_5 qy1_6 qy1_7 qy1_8 qy1_9 qy1_10 qy1_11 qy1_12 qy1_13 qy1_14 qx7_0 qx7_1
                                        replace y1 := y1.below hb5
                                        replace x7 := x7.below hb5
                                        replace hb := bto hb hb5
                                        clear hb5
                                        have qy1_0 := y1.c0
                                        have qy1_1 := y1.c1
                                        have qy1_2 := y1.c2
                                        have qy1_3 := y1.c3
                                        have qy1_4 := y1.c4
                                        have qy1_5 := y1.c5
                                        have qy1_6 := y1.c6
                                        have qy1_7 := y1.c7
                                        have qy1_8 := y1.c8
                                        have qy1_9 := y1.c9
                                        have qy1_10 := y1.c10
                                        have qy1_11 := y1.c11
                                        have qy1_12 := y1.c12
                                        have qy1_13 := y1.c13
                                        have qy1_14 := y1.c14
                                        have qx7_0 := x7.c0
                                        have qx7_1 := x7.c1
                                        go_wp2_with fail
                                        ((with_reducible refine (S3.out.of hG hb).mono ?_); rintro e w6 ⟨rfl, hb6⟩)
                                        clear qy1_0 qy1_1 qy1_2 qy1_3 qy1_4 qy1_5 qy1_6 qy1_7 qy1_8 qy1_9 qy1_10 qy1_11 qy1_12 qy1_13 qy1_14 qx7_0 qx7_1
                                        replace y1 := y1.below hb6
                                        replace x7 := x7.below hb6
                                        replace hb := bto hb hb6
                                        clear hb6
                                        have qy1_0 := y1.c0
                                        have qy1_1 := y1.c1
                                        have qy1_2 := y1.c2
                                        have qy1_3 := y1.c3
                                        have qy1_4 := y1.c4
                                        have qy1_5 := y1.c5
                                        have qy1_6 := y1.c6
                                        have qy1_7 := y1.c7
                                        have qy1_8 := y1.c8
                                        have qy1_9 := y1.c9
                                        have qy1_10 := y1.c10
                                        have qy1_11 := y1.c11
                                        have qy1_12 := y1.c12
                                        have qy1_13 := y1.c13
                                        have qy1_14 := y1.c14
                                        have qx7_0 := x7.c0
                                        have qx7_1 := x7.c1
                                        go_wp2
                                        go_ret
                                        exact ⟨reti (HV.out.trans HO.out).symm, hb⟩
                                    · have ba3 := sg_nil a3
                                      have HO : Hid (tailE x = 1) := by show _ = _; rw [HQ.out]; rw [HO2.out]; unfold fwdE; rw [if_neg (fun h => h.elim (fun h => h a1) a7), if_neg a2]; exact if_pos (.inl a3)
                                      clear a1 a7 a2 a3
                                      have qy1_0 := y1.c0
                                      have qy1_1 := y1.c1
                                      have qy1_2 := y1.c2
                                      have qy1_3 := y1.c3
                                      have qy1_4 := y1.c4
                                      have qy1_5 := y1.c5
                                      have qy1_6 := y1.c6
                                      have qy1_7 := y1.c7
                                      have qy1_8 := y1.c8
                                      have qy1_9 := y1.c9
                                      have qy1_10 := y1.c10
                                      have qy1_11 := y1.c11
                                      have qy1_12 := y1.c12
                                      have qy1_13 := y1.c13
                                      have qy1_14 := y1.c14
                                      have qx7_0 := x7.c0
                                      have qx7_1 := x7.c1
                                      go_wp2_with fail
                                      ((with_reducible refine (C5.out.of hG hb).mono ?_); rintro e w5 ⟨rfl, hb5⟩)
                                      clear qy1_0 qy1_1 qy1_2 qy1_3 qy1_4 qy1_5 qy1_6 qy1_7 qy1_8 qy1_9 qy1_10 qy1_11 qy1_12 qy1_13 qy1_14 qx7_0 qx7_1
                                      replace y1 := y1.below hb5
                                      replace x7 := x7.below hb5
                                      replace hb := bto hb hb5
                                      clear hb5
                                      have qy1_0 := y1.c0
                                      have qy1_1 := y1.c1
                                      have qy1_2 := y1.c2
                                      have qy1_3 := y1.c3
                                      have qy1_4 := y1.c4
                                      have qy1_5 := y1.c5
                                      have qy1_6 := y1.c6
                                      have qy1_7 := y1.c7
                                      have qy1_8 := y1.c8
                                      have qy1_9 := y1.c9
                                      have qy1_10 := y1.c10
                                      have qy1_11 := y1.c11
                                      have qy1_12 := y1.c12
                                      have qy1_13 := y1.c13
                                      have qy1_14 := y1.c14
                                      have qx7_0 := x7.c0
                                      have qx7_1 := x7.c1
                                      go_wp2_with fail
                                      ((with_reducible refine (S3.out.of hG hb).mono ?_); rintro e w6 ⟨rfl, hb6⟩)
                                      clear qy1_0 qy1_1 qy1_2 qy1_3 qy1_4 qy1_5 qy1_6 qy1_7 qy1_8 qy1_9 qy1_10 qy1_11 qy1_12 qy1_13 qy1_14 qx7_0 qx7_1
                                      replace y1 := y1.below hb6
                                      replace x7 := x7.below hb6
                                      replace hb := bto hb hb6
                                      clear hb6
                                      have qy1_0 := y1.c0
                                      have qy1_1 := y1.c1
                                      have qy1_2 := y1.c2
                                      have qy1_3 := y1.c3
                                      have qy1_4 := y1.c4
                                      have qy1_5 := y1.c5
                                      have qy1_6 := y1.c6
                                      have qy1_7 := y1.c7
                                      have qy1_8 := y1.c8
                                      have qy1_9 := y1.c9
                                      have qy1_10 := y1.c10
                                      have qy1_11 := y1.c11
                                      have qy1_12 := y1.c12
                                      have qy1_13 := y1.c13
                                      have qy1_14 := y1.c14
                                      have qx7_0 := x7.c0
                                      have qx7_1 := x7.c1
                                      go_wp2
                                      go_ret
                                      exact ⟨reti (HV.out.trans HO.out).symm, hb⟩
                              · have ba1 : codeB x.other = false := not_true_b a1
                                have HO : Hid (tailE x = 12) := by show _ = _; rw [HQ.out]; rw [HO2.out]; unfold fwdE; exact if_pos (.inl a1)
                                clear a1
                                have qy1_0 := y1.c0
                                have qy1_1 := y1.c1
                                have qy1_2 := y1.c2
                                have qy1_3 := y1.c3
                                have qy1_4 := y1.c4
                                have qy1_5 := y1.c5
                                have qy1_6 := y1.c6
                                have qy1_7 := y1.c7
                                have qy1_8 := y1.c8
                                have qy1_9 := y1.c9
                                have qy1_10 := y1.c10
                                have qy1_11 := y1.c11
                                have qy1_12 := y1.c12
                                have qy1_13 := y1.c13
                                have qy1_14 := y1.c14
                                have qx7_0 := x7.c0
                                have qx7_1 := x7.c1
                                go_wp2_with fail
                                ((with_reducible refine (C5.out.of hG hb).mono ?_); rintro e w5 ⟨rfl, hb5⟩)
                                clear qy1_0 qy1_1 qy1_2 qy1_3 qy1_4 qy1_5 qy1_6 qy1_7 qy1_8 qy1_9 qy1_10 qy1_11 qy1_12 qy1_13 qy1_14 qx7_0 qx7_1
                                replace y1 := y1.below hb5
                                replace x7 := x7.below hb5
                                replace hb := bto hb hb5
                                clear hb5
                                have qy1_0 := y1.c0
                                have qy1_1 := y1.c1
                                have qy1_2 := y1.c2
                                have qy1_3 := y1.c3
                                have qy1_4 := y1.c4
                                have qy1_5 := y1.c5
                                have qy1_6 := y1.c6
                                have qy1_7 := y1.c7
                                have qy1_8 := y1.c8
                                have qy1_9 := y1.c9
                                have qy1_10 := y1.c10
                                have qy1_11 := y1.c11
                                have qy1_12 := y1.c12
                                have qy1_13 := y1.c13
                                have qy1_14 := y1.c14
                                have qx7_0 := x7.c0
                                have qx7_1 := x7.c1
                                go_wp2
                                go_ret
                                exact ⟨reti (HV.out.trans HO.out).symm, hb⟩
                            · have e5 : (x.kind == 5) = false := by rw [beq_eq_false_iff_ne]; exact k5
                              have HO2 : Hid (ownE x = plainE x) := by show _ = _; unfold ownE; rw [if_neg k2, if_neg k5]
                              clear k2 k5 C5
                              by_cases a6 : x.other = []
                              · have ba6 : (x.other == []) = true := by rw [beq_iff_eq]; exact a6
                                have ea6 : (x.other).isEmpty = true := by rw [List.isEmpty_iff]; exact a6
                                by_cases a5 : sg x.sn = 0
                                · have ba5 := (sg_zero ZC.out a5).1
                                  have ca5 := (sg_zero ZC.out a5).2
                                  by_cases a1 : sg x.fn = 0
                                  · have ba1 := (sg_zero ZA.out a1).1
                                    have ca1 := (sg_zero ZA.out a1).2
                                    by_cases a2 : sg x.cn = 0
                                    · have ba2 := (sg_zero ZB.out a2).1
                                      have ca2 := (sg_zero ZB.out a2).2
                                      by_cases a3 : x.months = 0
                                      · have ba3 : (x.months == 0) = true := by rw [beq_iff_eq]; exact a3
                                        have na3 := bneq ba3
                                        by_cases a4 : x.count = 0
                                        · have ba4 : (x.count == 0) = true := by rw [beq_iff_eq]; exact a4
                                          have na4 := bneq ba4
                                          have HO : Hid (tailE x = 0) := by show _ = _; rw [HQ.out]; rw [HO2.out]; unfold plainE; exact if_neg (fun h => h.elim (fun h => h a1) (fun h => h.elim (fun h => h a2) (fun h => h.elim (fun h => h a3) (fun h => h.elim (fun h => h a4) (fun h => h.elim (fun h => h a5) (fun h => h a6))))))
                                          clear a6 a5 a1 a2 a3 a4
                                          have qy1_0 := y1.c0
                                          have qy1_1 := y1.c1
                                          have qy1_2 := y1.c2
                                          have qy1_3 := y1.c3
                                          have qy1_4 := y1.c4
                                          have qy1_5 := y1.c5
                                          have qy1_6 := y1.c6
                                          have qy1_7 := y1.c7
                                          have qy1_8 := y1.c8
                                          have qy1_9 := y1.c9
                                          have qy1_10 := y1.c10
                                          have qy1_11 := y1.c11
                                          have qy1_12 := y1.c12
                                          have qy1_13 := y1.c13
                                          have qy1_14 := y1.c14
                                          have qx7_0 := x7.c0
                                          have qx7_1 := x7.c1
                                          go_wp2
                                          go_ret
                                          exact ⟨reti (HV.out.trans HO.out).symm, hb⟩
                                        · have ba4 : (x.count == 0) = false := by rw [beq_eq_false_iff_ne]; exact a4
                                          have na4 := bneq' ba4
                                          have HO : Hid (tailE x = 1) := by show _ = _; rw [HQ.out]; rw [HO2.out]; unfold plainE; exact if_pos (.inr (.inr (.inr (.inl a4))))
                                          clear a6 a5 a1 a2 a3 a4
                                          have qy1_0 := y1.c0
                                          have qy1_1 := y1.c1
                                          have qy1_2 := y1.c2
                                          have qy1_3 := y1.c3
                                          have qy1_4 := y1.c4
                                          have qy1_5 := y1.c5
                                          have qy1_6 := y1.c6
                                          have qy1_7 := y1.c7
                                          have qy1_8 := y1.c8
                                          have qy1_9 := y1.c9
                                          have qy1_10 := y1.c10
                                          have qy1_11 := y1.c11
                                          have qy1_12 := y1.c12
                                          have qy1_13 := y1.c13
                                          have qy1_14 := y1.c14
                                          have qx7_0 := x7.c0
                                          have qx7_1 := x7.c1
                                          go_wp2
                                          go_ret
                                          exact ⟨reti (HV.out.trans HO.out).symm, hb⟩
                                      · have ba3 : (x.months == 0) = false := by rw [beq_eq_false_iff_ne]; exact a3
                                        have na3 := bneq' ba3
                                        have HO : Hid (tailE x = 1) := by show _ = _; rw [HQ.out]; rw [HO2.out]; unfold plainE; exact if_pos (.inr (.inr (.inl a3)))
                                        clear a6 a5 a1 a2 a3
                                        have qy1_0 := y1.c0
                                        have qy1_1 := y1.c1
                                        have qy1_2 := y1.c2
                                        have qy1_3 := y1.c3
                                        have qy1_4 := y1.c4
                                        have qy1_5 := y1.c5
                                        have qy1_6 := y1.c6
                                        have qy1_7 := y1.c7
                                        have qy1_8 := y1.c8
                                        have qy1_9 := y1.c9
                                        have qy1_10 := y1.c10
                                        have qy1_11 := y1.c11
                                        have qy1_12 := y1.c12
                                        have qy1_13 := y1.c13
                                        have qy1_14 := y1.c14
                                        have qx7_0 := x7.c0
                                        have qx7_1 := x7.c1
                                        go_wp2
                                        go_ret
                                        exact ⟨reti (HV.out.trans HO.out).symm, hb⟩
                                    · have ba2 := sg_nil a2
                                      have HO : Hid (tailE x = 1) := by show _ = _; rw [HQ.out]; rw [HO2.out]; unfold plainE; exact if_pos (.inr (.inl a2))
                                      clear a6 a5 a1 a2
                                      have qy1_0 := y1.c0
                                      have qy1_1 := y1.c1
                                      have qy1_2 := y1.c2
                                      have qy1_3 := y1.c3
                                      have qy1_4 := y1.c4
                                      have qy1_5 := y1.c5
                                      have qy1_6 := y1.c6
                                      have qy1_7 := y1.c7
                                      have qy1_8 := y1.c8
                                      have qy1_9 := y1.c9
                                      have qy1_10 := y1.c10
                                      have qy1_11 := y1.c11
                                      have qy1_12 := y1.c12
                                      have qy1_13 := y1.c13
                                      have qy1_14 := y1.c14
                                      have qx7_0 := x7.c0
                                      have qx7_1 := x7.c1
                                      go_wp2
                                      go_ret
                                      exact ⟨reti (HV.out.trans HO.out).symm, hb⟩
                                  · have ba1 := sg_nil a1
                                    have HO : Hid (tailE x = 1) := by show _ = _; rw [HQ.out]; rw [HO2.out]; unfold plainE; exact if_pos (.inl a1)
                                    clear a6 a5 a1
                                    have qy1_0 := y1.c0
                                    have qy1_1 := y1.c1
                                    have qy1_2 := y1.c2
                                    have qy1_3 := y1.c3
                                    have qy1_4 := y1.c4
                                    have qy1_5 := y1.c5
                                    have qy1_6 := y1.c6
                                    have qy1_7 := y1.c7
                                    have qy1_8 := y1.c8
                                    have qy1_9 := y1.c9
                                    have qy1_10 := y1.c10
                                    have qy1_11 := y1.c11
                                    have qy1_12 := y1.c12
                                    have qy1_13 := y1.c13
                                    have qy1_14 := y1.c14
                                    have qx7_0 := x7.c0
                                    have qx7_1 := x7.c1
                                    go_wp2
                                    go_ret
                                    exact ⟨reti (HV.out.trans HO.out).symm, hb⟩
                                · have ba5 := sg_nil a5
                                  have HO : Hid (tailE x = 1) := by show _ = _; rw [HQ.out]; rw [HO2.out]; unfold plainE; exact if_pos (.inr (.inr (.inr (.inr (.inl a5)))))
                                  clear a6 a5
                                  have qy1_0 := y1.c0
                                  have qy1_1 := y1.c1
                                  have qy1_2 := y1.c2
                                  have qy1_3 := y1.c3
                                  have qy1_4 := y1.c4
                                  have qy1_5 := y1.c5
                                  have qy1_6 := y1.c6
                                  have qy1_7 := y1.c7
                                  have qy1_8 := y1.c8
                                  have qy1_9 := y1.c9
                                  have qy1_10 := y1.c10
                                  have qy1_11 := y1.c11
                                  have qy1_12 := y1.c12
                                  have qy1_13 := y1.c13
                                  have qy1_14 := y1.c14
                                  have qx7_0 := x7.c0
                                  have qx7_1 := x7.c1
                                  go_wp2
                                  go_ret
                                  exact ⟨reti (HV.out.trans HO.out).symm, hb⟩
                              · have ba6 : (x.other == []) = false := by rw [beq_eq_false_iff_ne]; exact a6
                                have ea6 : (x.other).isEmpty = false := by rw [List.isEmpty_eq_false_iff]; exact a6
                                have HO : Hid (tailE x = 1) := by show _ = _; rw [HQ.out]; rw [HO2.out]; unfold plainE; exact if_pos (.inr (.inr (.inr (.inr (.inr a6)))))
                                clear a6
                                have qy1_0 := y1.c0
                                have qy1_1 := y1.c1
                                have qy1_2 := y1.c2
                                have qy1_3 := y1.c3
                                have qy1_4 := y1.c4
                                have qy1_5 := y1.c5
                                have qy1_6 := y1.c6
                                have qy1_7 := y1.c7
                                have qy1_8 := y1.c8
                                have qy1_9 := y1.c9
                                have qy1_10 := y1.c10
                                have qy1_11 := y1.c11
                                have qy1_12 := y1.c12
                                have qy1_13 := y1.c13
                                have qy1_14 := y1.c14
                                have qx7_0 := x7.c0
                                have qx7_1 := x7.c1
                                go_wp2
                                go_ret
                                exact ⟨reti (HV.out.trans HO.out).symm, hb⟩
              · have bh7 : dayB x.issued = false := not_true_b h7
                have HV : Hid (chkE x = 13) := by show _ = _; unfold chkE; rw [if_neg (fun h => h h1), if_neg (fun h => h.elim h2 h3), if_neg (fun h => h h4), if_neg (fun h => h.elim h5 h6), if_pos h7]
                rw [dayE_f h7] at C3
                clear h1 h4 h7
                go_enter Tryz.func90, Tryz.ntmps90
                have qx1_0 := x1.c0
                have qx1_1 := x1.c1
                have qx1_2 := x1.c2
                have qx1_3 := x1.c3
                have qx1_4 := x1.c4
                have qx1_5 := x1.c5
                have qx1_6 := x1.c6
                have qx1_7 := x1.c7
                have qx1_8 := x1.c8
                have qx1_9 := x1.c9
                have qx1_10 := x1.c10
                have qx1_11 := x1.c11
                have qx1_12 := x1.c12
                have qx1_13 := x1.c13
                have qx1_14 := x1.c14
                go_wp2_with fail
                ((with_reducible refine (C1.out.of hG hb).mono ?_); rintro e w2 ⟨rfl, hb2⟩)
                clear qx1_0 qx1_1 qx1_2 qx1_3 qx1_4 qx1_5 qx1_6 qx1_7 qx1_8 qx1_9 qx1_10 qx1_11 qx1_12 qx1_13 qx1_14
                replace x1 := x1.below hb2
                replace hb := bto hb hb2
                clear hb2
                have qx1_0 := x1.c0
                have qx1_1 := x1.c1
                have qx1_2 := x1.c2
                have qx1_3 := x1.c3
                have qx1_4 := x1.c4
                have qx1_5 := x1.c5
                have qx1_6 := x1.c6
                have qx1_7 := x1.c7
                have qx1_8 := x1.c8
                have qx1_9 := x1.c9
                have qx1_10 := x1.c10
                have qx1_11 := x1.c11
                have qx1_12 := x1.c12
                have qx1_13 := x1.c13
                have qx1_14 := x1.c14
                go_wp2_with fail
                ((with_reducible refine (C2.out.of hG hb).mono ?_); rintro e w3 ⟨rfl, hb3⟩)
                clear qx1_0 qx1_1 qx1_2 qx1_3 qx1_4 qx1_5 qx1_6 qx1_7 qx1_8 qx1_9 qx1_10 qx1_11 qx1_12 qx1_13 qx1_14
                replace x1 := x1.below hb3
                replace hb := bto hb hb3
                clear hb3
                have qx1_0 := x1.c0
                have qx1_1 := x1.c1
                have qx1_2 := x1.c2
                have qx1_3 := x1.c3
                have qx1_4 := x1.c4
                have qx1_5 := x1.c5
                have qx1_6 := x1.c6
                have qx1_7 := x1.c7
                have qx1_8 := x1.c8
                have qx1_9 := x1.c9
                have qx1_10 := x1.c10
                have qx1_11 := x1.c11
                have qx1_12 := x1.c12
                have qx1_13 := x1.c13
                have qx1_14 := x1.c14
                go_wp2_with fail
                ((with_reducible refine (C3.out.of hG hb).mono ?_); rintro e w4 ⟨rfl, hb4⟩)
                clear qx1_0 qx1_1 qx1_2 qx1_3 qx1_4 qx1_5 qx1_6 qx1_7 qx1_8 qx1_9 qx1_10 qx1_11 qx1_12 qx1_13 qx1_14
                replace x1 := x1.below hb4
                replace hb := bto hb hb4
                clear hb4
                have qx1_0 := x1.c0
                have qx1_1 := x1.c1
                have qx1_2 := x1.c2
                have qx1_3 := x1.c3
                have qx1_4 := x1.c4
                have qx1_5 := x1.c5
                have qx1_6 := x1.c6
                have qx1_7 := x1.c7
                have qx1_8 := x1.c8
                have qx1_9 := x1.c9
                have qx1_10 := x1.c10
                have qx1_11 := x1.c11
                have qx1_12 := x1.c12
                have qx1_13 := x1.c13
                have qx1_14 := x1.c14
                go_wp2
                go_ret
                exact ⟨reti HV.out.symm, hb⟩
        · have bh4 : codeB x.cur = false := not_true_b h4
          have HV : Hid (chkE x = 12) := by show _ = _; unfold chkE; rw [if_neg (fun h => h h1), if_neg (fun h => h.elim h2 h3), if_pos h4]
          clear h1 h4
          go_enter Tryz.func90, Tryz.ntmps90
          have qx1_0 := x1.c0
          have qx1_1 := x1.c1
          have qx1_2 := x1.c2
          have qx1_3 := x1.c3
          have qx1_4 := x1.c4
          have qx1_5 := x1.c5
          have qx1_6 := x1.c6
          have qx1_7 := x1.c7
          have qx1_8 := x1.c8
          have qx1_9 := x1.c9
          have qx1_10 := x1.c10
          have qx1_11 := x1.c11
          have qx1_12 := x1.c12
          have qx1_13 := x1.c13
          have qx1_14 := x1.c14
          go_wp2_with fail
          ((with_reducible refine (C1.out.of hG hb).mono ?_); rintro e w2 ⟨rfl, hb2⟩)
          clear qx1_0 qx1_1 qx1_2 qx1_3 qx1_4 qx1_5 qx1_6 qx1_7 qx1_8 qx1_9 qx1_10 qx1_11 qx1_12 qx1_13 qx1_14
          replace x1 := x1.below hb2
          replace hb := bto hb hb2
          clear hb2
          have qx1_0 := x1.c0
          have qx1_1 := x1.c1
          have qx1_2 := x1.c2
          have qx1_3 := x1.c3
          have qx1_4 := x1.c4
          have qx1_5 := x1.c5
          have qx1_6 := x1.c6
          have qx1_7 := x1.c7
          have qx1_8 := x1.c8
          have qx1_9 := x1.c9
          have qx1_10 := x1.c10
          have qx1_11 := x1.c11
          have qx1_12 := x1.c12
          have qx1_13 := x1.c13
          have qx1_14 := x1.c14
          go_wp2_with fail
          ((with_reducible refine (C2.out.of hG hb).mono ?_); rintro e w3 ⟨rfl, hb3⟩)
          clear qx1_0 qx1_1 qx1_2 qx1_3 qx1_4 qx1_5 qx1_6 qx1_7 qx1_8 qx1_9 qx1_10 qx1_11 qx1_12 qx1_13 qx1_14
          replace x1 := x1.below hb3
          replace hb := bto hb hb3
          clear hb3
          have qx1_0 := x1.c0
          have qx1_1 := x1.c1
          have qx1_2 := x1.c2
          have qx1_3 := x1.c3
          have qx1_4 := x1.c4
          have qx1_5 := x1.c5
          have qx1_6 := x1.c6
          have qx1_7 := x1.c7
          have qx1_8 := x1.c8
          have qx1_9 := x1.c9
          have qx1_10 := x1.c10
          have qx1_11 := x1.c11
          have qx1_12 := x1.c12
          have qx1_13 := x1.c13
          have qx1_14 := x1.c14
          go_wp2
          go_ret
          exact ⟨reti HV.out.symm, hb⟩
  · have bh1 : nameB x.id = false := not_true_b h1
    have HV : Hid (chkE x = 23) := by show _ = _; unfold chkE; rw [if_pos h1]
    clear h1
    go_enter Tryz.func90, Tryz.ntmps90
    have qx1_0 := x1.c0
    have qx1_1 := x1.c1
    have qx1_2 := x1.c2
    have qx1_3 := x1.c3
    have qx1_4 := x1.c4
    have qx1_5 := x1.c5
    have qx1_6 := x1.c6
    have qx1_7 := x1.c7
    have qx1_8 := x1.c8
    have qx1_9 := x1.c9
    have qx1_10 := x1.c10
    have qx1_11 := x1.c11
    have qx1_12 := x1.c12
    have qx1_13 := x1.c13
    have qx1_14 := x1.c14
    go_wp2_with fail
    ((with_reducible refine (C1.out.of hG hb).mono ?_); rintro e w2 ⟨rfl, hb2⟩)
    clear qx1_0 qx1_1 qx1_2 qx1_3 qx1_4 qx1_5 qx1_6 qx1_7 qx1_8 qx1_9 qx1_10 qx1_11 qx1_12 qx1_13 qx1_14
    replace x1 := x1.below hb2
    replace hb := bto hb hb2
    clear hb2
    have qx1_0 := x1.c0
    have qx1_1 := x1.c1
    have qx1_2 := x1.c2
    have qx1_3 := x1.c3
    have qx1_4 := x1.c4
    have qx1_5 := x1.c5
    have qx1_6 := x1.c6
    have qx1_7 := x1.c7
    have qx1_8 := x1.c8
    have qx1_9 := x1.c9
    have qx1_10 := x1.c10
    have qx1_11 := x1.c11
    have qx1_12 := x1.c12
    have qx1_13 := x1.c13
    have qx1_14 := x1.c14
    go_wp2
    go_ret
    exact ⟨reti HV.out.symm, hb⟩
end Go.Proofs.YtmmhimgkpfcokaaGreatDoor
