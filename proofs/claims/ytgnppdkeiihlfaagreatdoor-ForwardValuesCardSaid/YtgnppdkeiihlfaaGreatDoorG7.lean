/- Texts put together: Ig Vi Vj. -/
import Derived.Test.YtgnppdkeiihlfaaGreatDoorG6
namespace Go.Proofs.YtgnppdkeiihlfaaGreatDoor
open Go.RowKit Num
theorem can_of_num {l l' : List UInt8} (h : numE l l' = 0) : isCan l l' := by
 unfold numE at h
 split at h
 ·assumption
 ·exact absurd h (by decide)
theorem sg_nil {l : List UInt8} (h : ¬ sg l = 0) : (l == []) = false := by rw [beq_eq_false_iff_ne]; rintro rfl; exact h rfl
theorem sg_zero {l l' : List UInt8} (hc : isCan l l') (h : sg l = 0) : (l == []) = true ∧ (l' == []) = true := by
 obtain ⟨h1, h2⟩ := (zero_can hc).2 h
 exact ⟨by rw [h1]; rfl, by rw [h2]; rfl⟩
theorem dayE_t {d : Int} (h : dayB d = true) : dayE d = 0 := by unfold dayE; rw [if_pos h]
theorem dayE_f {d : Int} (h : ¬ dayB d = true) : dayE d = 13 := by unfold dayE; rw [if_neg h]
theorem jSg {l l' : List UInt8} (hc : isCan l l') (hl : l.length ≤ 60) (hl' : l'.length ≤ 60) : Ret 162 #[(Value.agg #[Value.string ⟨List.toArray l⟩, Value.string ⟨List.toArray l'⟩])] (.int .i64 (sg l)) := jSign (Nat.le_trans hl (by decide)) (Nat.le_trans hl' (by decide)) (sign_can hc)
set_option maxHeartbeats 8000000 in
set_option maxRecDepth 100000 in
theorem jCheck (x : Ins) (hx : x.Small) : Ret 97 #[(Value.agg #[Value.string ⟨List.toArray x.id⟩, Value.int .i64 x.kind, Value.string ⟨List.toArray x.cur⟩, Value.int .i64 x.places, Value.int .i64 x.issued, Value.int .i64 x.matures, Value.string ⟨List.toArray x.fn⟩, Value.string ⟨List.toArray x.fd⟩, Value.string ⟨List.toArray x.cn⟩, Value.string ⟨List.toArray x.cd⟩, Value.int .i64 x.months, Value.int .i64 x.count, Value.string ⟨List.toArray x.other⟩, Value.string ⟨List.toArray x.sn⟩, Value.string ⟨List.toArray x.sd⟩])] (.int .i64 (chkE x)) := fun w hG => by
 have C1 := Lib.hid (jName (l := x.id) (Nat.le_trans hx.id (by decide)))
 have C2 := Lib.hid (jCode (l := x.cur) (Nat.le_trans hx.cur (by decide)))
 have C3 := Lib.hid (jDay x.issued)
 have x1 := IBox.new w x 27
 have hb := below_alloc w (.cells #[Value.string ⟨List.toArray x.id⟩, Value.int .i64 x.kind, Value.string ⟨List.toArray x.cur⟩, Value.int .i64 x.places, Value.int .i64 x.issued, Value.int .i64 x.matures, Value.string ⟨List.toArray x.fn⟩, Value.string ⟨List.toArray x.fd⟩, Value.string ⟨List.toArray x.cn⟩, Value.string ⟨List.toArray x.cd⟩, Value.int .i64 x.months, Value.int .i64 x.count, Value.string ⟨List.toArray x.other⟩, Value.string ⟨List.toArray x.sn⟩, Value.string ⟨List.toArray x.sd⟩] 27)
 by_cases h1 : nameB x.id = true
 ·have bh1 := h1
  by_cases h2 : x.kind < 1
  ·have bh2 : decide (x.kind < 1) = true := decide_eq_true h2
   have HV : Hid (chkE x = 7) := by show _ = _; unfold chkE; rw [if_neg (fun h => h h1), if_pos (.inl h2)]
   clear h1
   go_enter Tryz.func97, Tryz.ntmps97
   obtain ⟨qx1_0, qx1_1, qx1_2, qx1_3, qx1_4, qx1_5, qx1_6, qx1_7, qx1_8, qx1_9, qx1_10, qx1_11, qx1_12, qx1_13, qx1_14⟩ := x1.all
   go_wp2_with fail
   ((with_reducible refine (C1.out.of hG hb).mono ?_); rintro e w2 ⟨rfl, hb2⟩)
   clear qx1_0 qx1_1 qx1_2 qx1_3 qx1_4 qx1_5 qx1_6 qx1_7 qx1_8 qx1_9 qx1_10 qx1_11 qx1_12 qx1_13 qx1_14
   replace x1 := x1.below hb2
   replace hb := bto hb hb2
   clear hb2
   obtain ⟨qx1_0, qx1_1, qx1_2, qx1_3, qx1_4, qx1_5, qx1_6, qx1_7, qx1_8, qx1_9, qx1_10, qx1_11, qx1_12, qx1_13, qx1_14⟩ := x1.all
   go_wp2
   go_ret
   exact ⟨reti HV.out.symm, hb⟩
  ·have bh2 : decide (x.kind < 1) = false := decide_eq_false h2
   by_cases h3 : 5 < x.kind
   ·have bh3 : decide (5 < x.kind) = true := decide_eq_true h3
    have HV : Hid (chkE x = 7) := by show _ = _; unfold chkE; rw [if_neg (fun h => h h1), if_pos (.inr h3)]
    clear h1
    go_enter Tryz.func97, Tryz.ntmps97
    obtain ⟨qx1_0, qx1_1, qx1_2, qx1_3, qx1_4, qx1_5, qx1_6, qx1_7, qx1_8, qx1_9, qx1_10, qx1_11, qx1_12, qx1_13, qx1_14⟩ := x1.all
    go_wp2_with fail
    ((with_reducible refine (C1.out.of hG hb).mono ?_); rintro e w2 ⟨rfl, hb2⟩)
    clear qx1_0 qx1_1 qx1_2 qx1_3 qx1_4 qx1_5 qx1_6 qx1_7 qx1_8 qx1_9 qx1_10 qx1_11 qx1_12 qx1_13 qx1_14
    replace x1 := x1.below hb2
    replace hb := bto hb hb2
    clear hb2
    obtain ⟨qx1_0, qx1_1, qx1_2, qx1_3, qx1_4, qx1_5, qx1_6, qx1_7, qx1_8, qx1_9, qx1_10, qx1_11, qx1_12, qx1_13, qx1_14⟩ := x1.all
    go_wp2
    go_ret
    exact ⟨reti HV.out.symm, hb⟩
   ·have bh3 : decide (5 < x.kind) = false := decide_eq_false h3
    by_cases h4 : codeB x.cur = true
    ·have bh4 := h4
     by_cases h5 : x.places < 0
     ·have bh5 : decide (x.places < 0) = true := decide_eq_true h5
      have HV : Hid (chkE x = 2) := by show _ = _; unfold chkE; rw [if_neg (fun h => h h1), if_neg (fun h => h.elim h2 h3), if_neg (fun h => h h4), if_pos (.inl h5)]
      clear h1 h4
      go_enter Tryz.func97, Tryz.ntmps97
      obtain ⟨qx1_0, qx1_1, qx1_2, qx1_3, qx1_4, qx1_5, qx1_6, qx1_7, qx1_8, qx1_9, qx1_10, qx1_11, qx1_12, qx1_13, qx1_14⟩ := x1.all
      go_wp2_with fail
      ((with_reducible refine (C1.out.of hG hb).mono ?_); rintro e w2 ⟨rfl, hb2⟩)
      clear qx1_0 qx1_1 qx1_2 qx1_3 qx1_4 qx1_5 qx1_6 qx1_7 qx1_8 qx1_9 qx1_10 qx1_11 qx1_12 qx1_13 qx1_14
      replace x1 := x1.below hb2
      replace hb := bto hb hb2
      clear hb2
      obtain ⟨qx1_0, qx1_1, qx1_2, qx1_3, qx1_4, qx1_5, qx1_6, qx1_7, qx1_8, qx1_9, qx1_10, qx1_11, qx1_12, qx1_13, qx1_14⟩ := x1.all
      go_wp2_with fail
      ((with_reducible refine (C2.out.of hG hb).mono ?_); rintro e w3 ⟨rfl, hb3⟩)
      clear qx1_0 qx1_1 qx1_2 qx1_3 qx1_4 qx1_5 qx1_6 qx1_7 qx1_8 qx1_9 qx1_10 qx1_11 qx1_12 qx1_13 qx1_14
      replace x1 := x1.below hb3
      replace hb := bto hb hb3
      clear hb3
      obtain ⟨qx1_0, qx1_1, qx1_2, qx1_3, qx1_4, qx1_5, qx1_6, qx1_7, qx1_8, qx1_9, qx1_10, qx1_11, qx1_12, qx1_13, qx1_14⟩ := x1.all
      go_wp2
      go_ret
      exact ⟨reti HV.out.symm, hb⟩
     ·have bh5 : decide (x.places < 0) = false := decide_eq_false h5
      by_cases h6 : 12 < x.places
      ·have bh6 : decide (12 < x.places) = true := decide_eq_true h6
       have HV : Hid (chkE x = 2) := by show _ = _; unfold chkE; rw [if_neg (fun h => h h1), if_neg (fun h => h.elim h2 h3), if_neg (fun h => h h4), if_pos (.inr h6)]
       clear h1 h4
       go_enter Tryz.func97, Tryz.ntmps97
       obtain ⟨qx1_0, qx1_1, qx1_2, qx1_3, qx1_4, qx1_5, qx1_6, qx1_7, qx1_8, qx1_9, qx1_10, qx1_11, qx1_12, qx1_13, qx1_14⟩ := x1.all
       go_wp2_with fail
       ((with_reducible refine (C1.out.of hG hb).mono ?_); rintro e w2 ⟨rfl, hb2⟩)
       clear qx1_0 qx1_1 qx1_2 qx1_3 qx1_4 qx1_5 qx1_6 qx1_7 qx1_8 qx1_9 qx1_10 qx1_11 qx1_12 qx1_13 qx1_14
       replace x1 := x1.below hb2
       replace hb := bto hb hb2
       clear hb2
       obtain ⟨qx1_0, qx1_1, qx1_2, qx1_3, qx1_4, qx1_5, qx1_6, qx1_7, qx1_8, qx1_9, qx1_10, qx1_11, qx1_12, qx1_13, qx1_14⟩ := x1.all
       go_wp2_with fail
       ((with_reducible refine (C2.out.of hG hb).mono ?_); rintro e w3 ⟨rfl, hb3⟩)
       clear qx1_0 qx1_1 qx1_2 qx1_3 qx1_4 qx1_5 qx1_6 qx1_7 qx1_8 qx1_9 qx1_10 qx1_11 qx1_12 qx1_13 qx1_14
       replace x1 := x1.below hb3
       replace hb := bto hb hb3
       clear hb3
       obtain ⟨qx1_0, qx1_1, qx1_2, qx1_3, qx1_4, qx1_5, qx1_6, qx1_7, qx1_8, qx1_9, qx1_10, qx1_11, qx1_12, qx1_13, qx1_14⟩ := x1.all
       go_wp2
       go_ret
       exact ⟨reti HV.out.symm, hb⟩
      ·have bh6 : decide (12 < x.places) = false := decide_eq_false h6
       by_cases h7 : dayB x.issued = true
       ·have bh7 := h7
        have HV : Hid (chkE x = tailE x) := by show _ = _; unfold chkE; rw [if_neg (fun h => h h1), if_neg (fun h => h.elim h2 h3), if_neg (fun h => h h4), if_neg (fun h => h.elim h5 h6), if_neg (fun h => h h7)]
        have HE : Hid (∀ b, decide (x.kind = 2) = b ∨ True) := fun _ => .inr trivial
        have C4 := Lib.hid (jDay x.matures)
        rw [dayE_t h7] at C3
        have N0 := Lib.hid (jNumber (l := x.fn) (l' := x.fd) (Nat.le_trans hx.fn (by decide)) (Nat.le_trans hx.fd (by decide)))
        have N1 := Lib.hid (jNumber (l := x.cn) (l' := x.cd) (Nat.le_trans hx.cn (by decide)) (Nat.le_trans hx.cd (by decide)))
        have N2 := Lib.hid (jNumber (l := x.sn) (l' := x.sd) (Nat.le_trans hx.sn (by decide)) (Nat.le_trans hx.sd (by decide)))
        have C5 := Lib.hid (jCode (l := x.other) (Nat.le_trans hx.other (by decide)))
        clear h1 h4 h7 HE
        go_enter Tryz.func97, Tryz.ntmps97
        obtain ⟨qx1_0, qx1_1, qx1_2, qx1_3, qx1_4, qx1_5, qx1_6, qx1_7, qx1_8, qx1_9, qx1_10, qx1_11, qx1_12, qx1_13, qx1_14⟩ := x1.all
        go_wp2_with fail
        ((with_reducible refine (C1.out.of hG hb).mono ?_); rintro e w2 ⟨rfl, hb2⟩)
        clear qx1_0 qx1_1 qx1_2 qx1_3 qx1_4 qx1_5 qx1_6 qx1_7 qx1_8 qx1_9 qx1_10 qx1_11 qx1_12 qx1_13 qx1_14
        replace x1 := x1.below hb2
        replace hb := bto hb hb2
        clear hb2
        obtain ⟨qx1_0, qx1_1, qx1_2, qx1_3, qx1_4, qx1_5, qx1_6, qx1_7, qx1_8, qx1_9, qx1_10, qx1_11, qx1_12, qx1_13, qx1_14⟩ := x1.all
        go_wp2_with fail
        ((with_reducible refine (C2.out.of hG hb).mono ?_); rintro e w3 ⟨rfl, hb3⟩)
        clear qx1_0 qx1_1 qx1_2 qx1_3 qx1_4 qx1_5 qx1_6 qx1_7 qx1_8 qx1_9 qx1_10 qx1_11 qx1_12 qx1_13 qx1_14
        replace x1 := x1.below hb3
        replace hb := bto hb hb3
        clear hb3
        obtain ⟨qx1_0, qx1_1, qx1_2, qx1_3, qx1_4, qx1_5, qx1_6, qx1_7, qx1_8, qx1_9, qx1_10, qx1_11, qx1_12, qx1_13, qx1_14⟩ := x1.all
        go_wp2_with fail
        ((with_reducible refine (C3.out.of hG hb).mono ?_); rintro e w4 ⟨rfl, hb4⟩)
        clear qx1_0 qx1_1 qx1_2 qx1_3 qx1_4 qx1_5 qx1_6 qx1_7 qx1_8 qx1_9 qx1_10 qx1_11 qx1_12 qx1_13 qx1_14
        replace x1 := x1.below hb4
        replace hb := bto hb hb4
        clear hb4
        obtain ⟨qx1_0, qx1_1, qx1_2, qx1_3, qx1_4, qx1_5, qx1_6, qx1_7, qx1_8, qx1_9, qx1_10, qx1_11, qx1_12, qx1_13, qx1_14⟩ := x1.all
        go_upto_region 11 with fail
        clear qx1_0 qx1_1 qx1_2 qx1_3 qx1_4 qx1_5 qx1_6 qx1_7 qx1_8 qx1_9 qx1_10 qx1_11 qx1_12 qx1_13 qx1_14
        go_cut [3] from 37 to 44 (fun s3 wx => s3 = .bool (endsB x) ∧ wx = w4)
        case first =>
         by_cases k2 : x.kind = 2
         ·have e1 : (x.kind == 2) = true := by rw [beq_iff_eq]; exact k2
          have HM : Hid (endsB x = true) := by show _ = _; unfold endsB; rw [decide_eq_true k2]; rfl
          clear k2
          have qx1_1 := x1.c1
          go_wp2
          go_meet
          case rel => exact ⟨by rw [HM.out], rfl⟩
         ·have e1 : (x.kind == 2) = false := by rw [beq_eq_false_iff_ne]; exact k2
          by_cases k5 : x.kind = 5
          ·have e2 : (x.kind == 5) = true := by rw [beq_iff_eq]; exact k5
           have HM : Hid (endsB x = true) := by show _ = _; unfold endsB; rw [decide_eq_false k2, decide_eq_true k5]; rfl
           clear k2 k5
           have qx1_1 := x1.c1
           go_wp2
           go_meet
           case rel => exact ⟨by rw [HM.out], rfl⟩
          ·have e2 : (x.kind == 5) = false := by rw [beq_eq_false_iff_ne]; exact k5
           have HM : Hid (endsB x = false) := by show _ = _; unfold endsB; rw [decide_eq_false k2, decide_eq_false k5]; rfl
           clear k2 k5
           have qx1_1 := x1.c1
           go_wp2
           go_meet
           case rel => exact ⟨by rw [HM.out], rfl⟩
        case rest =>
         obtain ⟨rfl, rfl⟩ := hcut
         obtain ⟨ends, hends⟩ : ∃ b, endsB x = b := ⟨_, rfl⟩
         rw [hends]
         have HE := Lib.hid hends
         clear hends
         go_upto_region 12 with fail
         go_cut [68] from 45 to 68 (fun s68 wx => s68 = .bool (matB x) ∧ Below wc.heap.size wc wx)
         case first =>
          by_cases m0 : x.matures = 0
          ·have e1 : (x.matures == 0) = true := by rw [beq_iff_eq]; exact m0
           have e2 := bneq e1
           have HM : Hid (matB x = ends) := by show _ = _; rw [mat_0 m0, HE.out]
           clear m0
           cases ends
           ·have e3 := HM.out
            clear HM
            have qx1_4 := x1.c4
            have qx1_5 := x1.c5
            go_wp2
            go_meet
            case rel => exact ⟨by rw [e3], Below.refl _ _⟩
           ·have e3 := HM.out
            clear HM
            have qx1_4 := x1.c4
            have qx1_5 := x1.c5
            go_wp2
            go_meet
            case rel => exact ⟨by rw [e3], Below.refl _ _⟩
          ·have e1 : (x.matures == 0) = false := by rw [beq_eq_false_iff_ne]; exact m0
           have e2 := bneq' e1
           have hG2 := hG.below hb
           have hb2 := Below.refl wc.heap.size wc
           by_cases m1 : dayB x.matures = true
           ·rw [dayE_t m1] at C4
            by_cases m2 : x.matures ≤ x.issued
            ·have e3 : decide (x.matures ≤ x.issued) = true := decide_eq_true m2
             have HM : Hid (matB x = true) := mat_2 m0 m2
             clear m0
             have qx1_4 := x1.c4
             have qx1_5 := x1.c5
             go_wp2_with fail
             ((with_reducible refine (C4.out.of hG2 hb2).mono ?_); rintro e wv ⟨rfl, hbv⟩)
             clear qx1_4 qx1_5
             replace x1 := x1.below hbv
             have qx1_4 := x1.c4
             have qx1_5 := x1.c5
             go_wp2
             go_meet
             case rel => exact ⟨by rw [HM.out], hbv⟩
            ·have e3 : decide (x.matures ≤ x.issued) = false := decide_eq_false m2
             have HM : Hid (matB x = false) := mat_3 m0 m1 m2
             clear m0
             have qx1_4 := x1.c4
             have qx1_5 := x1.c5
             go_wp2_with fail
             ((with_reducible refine (C4.out.of hG2 hb2).mono ?_); rintro e wv ⟨rfl, hbv⟩)
             clear qx1_4 qx1_5
             replace x1 := x1.below hbv
             have qx1_4 := x1.c4
             have qx1_5 := x1.c5
             go_wp2
             go_meet
             case rel => exact ⟨by rw [HM.out], hbv⟩
           ·rw [dayE_f m1] at C4
            have m1 := not_true_b m1
            have HM : Hid (matB x = true) := mat_1 m0 m1
            clear m0
            have qx1_4 := x1.c4
            have qx1_5 := x1.c5
            go_wp2_with fail
            ((with_reducible refine (C4.out.of hG2 hb2).mono ?_); rintro e wv ⟨rfl, hbv⟩)
            clear qx1_4 qx1_5
            replace x1 := x1.below hbv
            have qx1_4 := x1.c4
            have qx1_5 := x1.c5
            go_wp2
            go_meet
            case rel => exact ⟨by rw [HM.out], hbv⟩
         case rest =>
          obtain ⟨rfl, hbc⟩ := hcut
          skip
          replace x1 := x1.below hbc
          replace hb := bto hb hbc
          clear hbc C4 HE
          obtain ⟨mb, hmb⟩ : ∃ b, matB x = b := ⟨_, rfl⟩
          rw [hmb]
          have HB := Lib.hid hmb
          clear hmb
          rcases Bool.eq_false_or_eq_true mb with hm | hm <;> subst hm
          ·have HT : Hid (tailE x = 13) := by show _ = _; unfold tailE; rw [if_pos HB.out]
           clear HB N0 N1 N2 C5
           go_wp2
           go_ret
           exact ⟨reti (HV.out.trans HT.out).symm, hb⟩
          ·have HT : Hid (tailE x = if numsE x ≠ 0 then numsE x else ownE x) := by show _ = _; unfold tailE; rw [if_neg (by rw [HB.out]; decide)]
           clear HB
           obtain ⟨qx1_0, qx1_1, qx1_2, qx1_3, qx1_4, qx1_5, qx1_6, qx1_7, qx1_8, qx1_9, qx1_10, qx1_11, qx1_12, qx1_13, qx1_14⟩ := x1.all
           go_wp2_with fail
           clear qx1_0 qx1_1 qx1_2 qx1_3 qx1_4 qx1_5 qx1_6 qx1_7 qx1_8 qx1_9 qx1_10 qx1_11 qx1_12 qx1_13 qx1_14
           have hbA := below_alloc wc (.cells #[.string ⟨x.fn.toArray⟩, .string ⟨x.fd.toArray⟩, .string ⟨x.cn.toArray⟩, .string ⟨x.cd.toArray⟩, .string ⟨x.sn.toArray⟩, .string ⟨x.sd.toArray⟩] 25)
           have xN := Blk.new wc #[.string ⟨x.fn.toArray⟩, .string ⟨x.fd.toArray⟩, .string ⟨x.cn.toArray⟩, .string ⟨x.cd.toArray⟩, .string ⟨x.sn.toArray⟩, .string ⟨x.sd.toArray⟩] 25
           replace x1 := x1.below hbA
           replace hb := bto hb hbA
           clear hbA
           go_loopw [5] (fun iv wr => ∃ k : Nat, k ≤ 3 ∧ iv = .int .i64 (k : Int) ∧ Hid ((1 ≤ k → numE x.fn x.fd = 0) ∧ (2 ≤ k → numE x.cn x.cd = 0) ∧ (3 ≤ k → numE x.sn x.sd = 0)) ∧ IBox wr w.heap.size x ∧ Blk wr wc.heap.size #[.string ⟨x.fn.toArray⟩, .string ⟨x.fd.toArray⟩, .string ⟨x.cn.toArray⟩, .string ⟨x.cd.toArray⟩, .string ⟨x.sn.toArray⟩, .string ⟨x.sd.toArray⟩] ∧ Below w.heap.size w wr) (fun iv _ => 3 - (intOf iv).toNat)
           case atStart => exact ⟨0, by omega, rfl, ⟨fun h => absurd h (by decide), fun h => absurd h (by decide), fun h => absurd h (by decide)⟩, x1, xN, hb⟩
           case round =>
            obtain ⟨k, hk, rfl, HK, y1, yN, hbr⟩ := hrel
            have hk4 : k = 0 ∨ k = 1 ∨ k = 2 ∨ k = 3 := by omega
            rcases hk4 with rfl | rfl | rfl | rfl
            ·have q0 : wr.cell? ⟨wc.heap.size, 0, none⟩ = some (.string ⟨x.fn.toArray⟩) := yN.c 0
             have q1 : wr.cell? ⟨wc.heap.size, 1, none⟩ = some (.string ⟨x.fd.toArray⟩) := yN.c 1
             go_wp2_with fail
             ((with_reducible refine (N0.out.of hG hbr).mono ?_); rintro e wn ⟨rfl, hbn⟩)
             replace y1 := y1.below hbn
             replace yN := yN.below hbn
             replace hbr := bto hbr hbn
             clear hbn q0 q1
             by_cases hz : numE x.fn x.fd = 0
             ·have HK2 : Hid ((1 ≤ 1 → numE x.fn x.fd = 0) ∧ (2 ≤ 1 → numE x.cn x.cd = 0) ∧ (3 ≤ 1 → numE x.sn x.sd = 0)) := ⟨fun _ => hz, fun h => absurd h (by decide), fun h => absurd h (by decide)⟩
              have e1 : (numE x.fn x.fd == 0) = true := by rw [beq_iff_eq]; exact hz
              have e2 := bneq e1
              clear hz HK
              go_wp2
              go_roundw
              case rel => exact ⟨1, by omega, by first | rfl | go_num, HK2, y1, yN, hbr⟩
              case measure => simp [intOf]
             ·have HQ : Hid (tailE x = numE x.fn x.fd) := by show _ = _; have hq := nums_0 hz; rw [HT.out, hq, if_pos hz]
              have e1 : (numE x.fn x.fd == 0) = false := by rw [beq_eq_false_iff_ne]; exact hz
              have e2 := bneq' e1
              clear hz HK
              go_wp2
              go_ret
              exact ⟨reti (HV.out.trans HQ.out).symm, hbr⟩
            ·have q0 : wr.cell? ⟨wc.heap.size, 2, none⟩ = some (.string ⟨x.cn.toArray⟩) := yN.c 2
             have q1 : wr.cell? ⟨wc.heap.size, 3, none⟩ = some (.string ⟨x.cd.toArray⟩) := yN.c 3
             go_wp2_with fail
             ((with_reducible refine (N1.out.of hG hbr).mono ?_); rintro e wn ⟨rfl, hbn⟩)
             replace y1 := y1.below hbn
             replace yN := yN.below hbn
             replace hbr := bto hbr hbn
             clear hbn q0 q1
             by_cases hz : numE x.cn x.cd = 0
             ·have HK2 : Hid ((1 ≤ 2 → numE x.fn x.fd = 0) ∧ (2 ≤ 2 → numE x.cn x.cd = 0) ∧ (3 ≤ 2 → numE x.sn x.sd = 0)) := ⟨fun _ => HK.out.1 (by decide), fun _ => hz, fun h => absurd h (by decide)⟩
              have e1 : (numE x.cn x.cd == 0) = true := by rw [beq_iff_eq]; exact hz
              have e2 := bneq e1
              clear hz HK
              go_wp2
              go_roundw
              case rel => exact ⟨2, by omega, by first | rfl | go_num, HK2, y1, yN, hbr⟩
              case measure => simp [intOf]
             ·have HQ : Hid (tailE x = numE x.cn x.cd) := by show _ = _; have hq := nums_1 (HK.out.1 (by decide)) hz; rw [HT.out, hq, if_pos hz]
              have e1 : (numE x.cn x.cd == 0) = false := by rw [beq_eq_false_iff_ne]; exact hz
              have e2 := bneq' e1
              clear hz HK
              go_wp2
              go_ret
              exact ⟨reti (HV.out.trans HQ.out).symm, hbr⟩
            ·have q0 : wr.cell? ⟨wc.heap.size, 4, none⟩ = some (.string ⟨x.sn.toArray⟩) := yN.c 4
             have q1 : wr.cell? ⟨wc.heap.size, 5, none⟩ = some (.string ⟨x.sd.toArray⟩) := yN.c 5
             go_wp2_with fail
             ((with_reducible refine (N2.out.of hG hbr).mono ?_); rintro e wn ⟨rfl, hbn⟩)
             replace y1 := y1.below hbn
             replace yN := yN.below hbn
             replace hbr := bto hbr hbn
             clear hbn q0 q1
             by_cases hz : numE x.sn x.sd = 0
             ·have HK2 : Hid ((1 ≤ 3 → numE x.fn x.fd = 0) ∧ (2 ≤ 3 → numE x.cn x.cd = 0) ∧ (3 ≤ 3 → numE x.sn x.sd = 0)) := ⟨fun _ => HK.out.1 (by decide), fun _ => HK.out.2.1 (by decide), fun _ => hz⟩
              have e1 : (numE x.sn x.sd == 0) = true := by rw [beq_iff_eq]; exact hz
              have e2 := bneq e1
              clear hz HK
              go_wp2
              go_roundw
              case rel => exact ⟨3, by omega, by first | rfl | go_num, HK2, y1, yN, hbr⟩
              case measure => simp [intOf]
             ·have HQ : Hid (tailE x = numE x.sn x.sd) := by show _ = _; have hq := nums_2 (HK.out.1 (by decide)) (HK.out.2.1 (by decide)); rw [HT.out, hq, if_pos hz]
              have e1 : (numE x.sn x.sd == 0) = false := by rw [beq_eq_false_iff_ne]; exact hz
              have e2 := bneq' e1
              clear hz HK
              go_wp2
              go_ret
              exact ⟨reti (HV.out.trans HQ.out).symm, hbr⟩
            ·have HQ : Hid (tailE x = ownE x) := by show _ = _; have hq := nums_2 (HK.out.1 (by decide)) (HK.out.2.1 (by decide)); rw [HT.out, hq, if_neg (fun g => g (HK.out.2.2 (by decide)))]
             have ca := can_of_num (HK.out.1 (by decide))
             have cb := can_of_num (HK.out.2.1 (by decide))
             have cc := can_of_num (HK.out.2.2 (by decide))
             have S1 := Lib.hid (jSg ca hx.fn hx.fd)
             have S2 := Lib.hid (jSg cb hx.cn hx.cd)
             have S3 := Lib.hid (jSg cc hx.sn hx.sd)
             have ZA := Lib.hid ca
             have ZB := Lib.hid cb
             have ZC := Lib.hid cc
             clear HK HT N0 N1 N2 ca cb cc
             have hbA := below_alloc wr (.cells #[.string ⟨#[]⟩, .string ⟨#[]⟩] 25)
             have x7 := FBox.new wr (.string ⟨#[]⟩) (.string ⟨#[]⟩) 25
             replace y1 := y1.below hbA
             replace hbr := bto hbr hbA
             have hb := hbr
             clear hbA hbr
             by_cases k2 : x.kind = 2
             ·have e2 : (x.kind == 2) = true := by rw [beq_iff_eq]; exact k2
              have HO2 : Hid (ownE x = bondE x) := if_pos k2
              clear k2 C5
              have g1 := y1.c1
              go_upto_region 23 with fail
              clear g1
              go_cut [8] from 94 to 121 (fun s8 wx => s8 = .bool (monthsB x.months) ∧ wx = wr.alloc (.cells #[.string ⟨#[]⟩, .string ⟨#[]⟩] 25))
              case first =>
               by_cases v1 : x.months = 1
               ·have f1 : (x.months == 1) = true := by rw [beq_iff_eq]; exact v1
                have HM : Hid (monthsB x.months = true) := by show _ = _; rw [v1]; rfl
                clear v1
                have g10 := y1.c10
                go_wp2
                go_meet
                case rel => exact ⟨by rw [HM.out], rfl⟩
               ·have f1 : (x.months == 1) = false := by rw [beq_eq_false_iff_ne]; exact v1
                by_cases v2 : x.months = 2
                ·have f2 : (x.months == 2) = true := by rw [beq_iff_eq]; exact v2
                 have HM : Hid (monthsB x.months = true) := by show _ = _; rw [v2]; rfl
                 clear v1 v2
                 have g10 := y1.c10
                 go_wp2
                 go_meet
                 case rel => exact ⟨by rw [HM.out], rfl⟩
                ·have f2 : (x.months == 2) = false := by rw [beq_eq_false_iff_ne]; exact v2
                 by_cases v3 : x.months = 3
                 ·have f3 : (x.months == 3) = true := by rw [beq_iff_eq]; exact v3
                  have HM : Hid (monthsB x.months = true) := by show _ = _; rw [v3]; rfl
                  clear v1 v2 v3
                  have g10 := y1.c10
                  go_wp2
                  go_meet
                  case rel => exact ⟨by rw [HM.out], rfl⟩
                 ·have f3 : (x.months == 3) = false := by rw [beq_eq_false_iff_ne]; exact v3
                  by_cases v4 : x.months = 4
                  ·have f4 : (x.months == 4) = true := by rw [beq_iff_eq]; exact v4
                   have HM : Hid (monthsB x.months = true) := by show _ = _; rw [v4]; rfl
                   clear v1 v2 v3 v4
                   have g10 := y1.c10
                   go_wp2
                   go_meet
                   case rel => exact ⟨by rw [HM.out], rfl⟩
                  ·have f4 : (x.months == 4) = false := by rw [beq_eq_false_iff_ne]; exact v4
                   by_cases v6 : x.months = 6
                   ·have f6 : (x.months == 6) = true := by rw [beq_iff_eq]; exact v6
                    have HM : Hid (monthsB x.months = true) := by show _ = _; rw [v6]; rfl
                    clear v1 v2 v3 v4 v6
                    have g10 := y1.c10
                    go_wp2
                    go_meet
                    case rel => exact ⟨by rw [HM.out], rfl⟩
                   ·have f6 : (x.months == 6) = false := by rw [beq_eq_false_iff_ne]; exact v6
                    by_cases v12 : x.months = 12
                    ·have f12 : (x.months == 12) = true := by rw [beq_iff_eq]; exact v12
                     have HM : Hid (monthsB x.months = true) := by show _ = _; rw [v12]; rfl
                     clear v1 v2 v3 v4 v6 v12
                     have g10 := y1.c10
                     go_wp2
                     go_meet
                     case rel => exact ⟨by rw [HM.out], rfl⟩
                    ·have f12 : (x.months == 12) = false := by rw [beq_eq_false_iff_ne]; exact v12
                     have HM : Hid (monthsB x.months = false) := by show _ = _; unfold monthsB; exact decide_eq_false (by simp only [List.mem_cons, List.not_mem_nil, or_false]; omega)
                     clear v1 v2 v3 v4 v6 v12
                     have g10 := y1.c10
                     go_wp2
                     go_meet
                     case rel => exact ⟨by rw [HM.out], rfl⟩
              case rest =>
               obtain ⟨rfl, rfl⟩ := hcut
               obtain ⟨mo, hmo⟩ : ∃ b, monthsB x.months = b := ⟨_, rfl⟩
               rw [hmo]
               have HB := Lib.hid hmo
               clear hmo
               rcases Bool.eq_false_or_eq_true mo with hm | hm <;> subst hm
               ·by_cases a1 : sg x.fn ≤ 0
                ·have ba1 : decide (sg x.fn ≤ 0) = true := decide_eq_true a1
                 have HO : Hid (tailE x = 2) := by show _ = _; rw [HQ.out]; rw [HO2.out]; unfold bondE; exact if_pos (.inl a1)
                 clear a1
                 obtain ⟨g0, g1, g2, g3, g4, g5, g6, g7, g8, g9, g10, g11, g12, g13, g14⟩ := y1.all
                 have qx7_0 := x7.c0
                 have qx7_1 := x7.c1
                 go_wp2_with fail
                 ((with_reducible refine (S1.out.of hG hb).mono ?_); rintro e w5 ⟨rfl, hb5⟩)
                 clear g0 g1 g2 g3 g4 g5 g6 g7 g8 g9 g10 g11 g12 g13 g14 qx7_0 qx7_1
                 replace y1 := y1.below hb5
                 replace x7 := x7.below hb5
                 replace hb := bto hb hb5
                 clear hb5
                 obtain ⟨g0, g1, g2, g3, g4, g5, g6, g7, g8, g9, g10, g11, g12, g13, g14⟩ := y1.all
                 have qx7_0 := x7.c0
                 have qx7_1 := x7.c1
                 go_wp2
                 go_ret
                 exact ⟨reti (HV.out.trans HO.out).symm, hb⟩
                ·have ba1 : decide (sg x.fn ≤ 0) = false := decide_eq_false a1
                 by_cases a2 : sg x.cn < 0
                 ·have ba2 : decide (sg x.cn < 0) = true := decide_eq_true a2
                  have HO : Hid (tailE x = 2) := by show _ = _; rw [HQ.out]; rw [HO2.out]; unfold bondE; exact if_pos (.inr (.inl a2))
                  clear a1 a2
                  obtain ⟨g0, g1, g2, g3, g4, g5, g6, g7, g8, g9, g10, g11, g12, g13, g14⟩ := y1.all
                  have qx7_0 := x7.c0
                  have qx7_1 := x7.c1
                  go_wp2_with fail
                  ((with_reducible refine (S1.out.of hG hb).mono ?_); rintro e w5 ⟨rfl, hb5⟩)
                  clear g0 g1 g2 g3 g4 g5 g6 g7 g8 g9 g10 g11 g12 g13 g14 qx7_0 qx7_1
                  replace y1 := y1.below hb5
                  replace x7 := x7.below hb5
                  replace hb := bto hb hb5
                  clear hb5
                  obtain ⟨g0, g1, g2, g3, g4, g5, g6, g7, g8, g9, g10, g11, g12, g13, g14⟩ := y1.all
                  have qx7_0 := x7.c0
                  have qx7_1 := x7.c1
                  go_wp2_with fail
                  ((with_reducible refine (S2.out.of hG hb).mono ?_); rintro e w6 ⟨rfl, hb6⟩)
                  clear g0 g1 g2 g3 g4 g5 g6 g7 g8 g9 g10 g11 g12 g13 g14 qx7_0 qx7_1
                  replace y1 := y1.below hb6
                  replace x7 := x7.below hb6
                  replace hb := bto hb hb6
                  clear hb6
                  obtain ⟨g0, g1, g2, g3, g4, g5, g6, g7, g8, g9, g10, g11, g12, g13, g14⟩ := y1.all
                  have qx7_0 := x7.c0
                  have qx7_1 := x7.c1
                  go_wp2
                  go_ret
                  exact ⟨reti (HV.out.trans HO.out).symm, hb⟩
                 ·have ba2 : decide (sg x.cn < 0) = false := decide_eq_false a2
                  by_cases a4 : x.count < 1
                  ·have ba4 : decide (x.count < 1) = true := decide_eq_true a4
                   have HO : Hid (tailE x = 2) := by show _ = _; rw [HQ.out]; rw [HO2.out]; unfold bondE; exact if_pos (.inr (.inr (.inr (.inl a4))))
                   clear a1 a2 a4
                   obtain ⟨g0, g1, g2, g3, g4, g5, g6, g7, g8, g9, g10, g11, g12, g13, g14⟩ := y1.all
                   have qx7_0 := x7.c0
                   have qx7_1 := x7.c1
                   go_wp2_with fail
                   ((with_reducible refine (S1.out.of hG hb).mono ?_); rintro e w5 ⟨rfl, hb5⟩)
                   clear g0 g1 g2 g3 g4 g5 g6 g7 g8 g9 g10 g11 g12 g13 g14 qx7_0 qx7_1
                   replace y1 := y1.below hb5
                   replace x7 := x7.below hb5
                   replace hb := bto hb hb5
                   clear hb5
                   obtain ⟨g0, g1, g2, g3, g4, g5, g6, g7, g8, g9, g10, g11, g12, g13, g14⟩ := y1.all
                   have qx7_0 := x7.c0
                   have qx7_1 := x7.c1
                   go_wp2_with fail
                   ((with_reducible refine (S2.out.of hG hb).mono ?_); rintro e w6 ⟨rfl, hb6⟩)
                   clear g0 g1 g2 g3 g4 g5 g6 g7 g8 g9 g10 g11 g12 g13 g14 qx7_0 qx7_1
                   replace y1 := y1.below hb6
                   replace x7 := x7.below hb6
                   replace hb := bto hb hb6
                   clear hb6
                   obtain ⟨g0, g1, g2, g3, g4, g5, g6, g7, g8, g9, g10, g11, g12, g13, g14⟩ := y1.all
                   have qx7_0 := x7.c0
                   have qx7_1 := x7.c1
                   go_wp2
                   go_ret
                   exact ⟨reti (HV.out.trans HO.out).symm, hb⟩
                  ·have ba4 : decide (x.count < 1) = false := decide_eq_false a4
                   by_cases a5 : 5 < x.count
                   ·have ba5 : decide (5 < x.count) = true := decide_eq_true a5
                    have HO : Hid (tailE x = 2) := by show _ = _; rw [HQ.out]; rw [HO2.out]; unfold bondE; exact if_pos (.inr (.inr (.inr (.inr a5))))
                    clear a1 a2 a4 a5
                    obtain ⟨g0, g1, g2, g3, g4, g5, g6, g7, g8, g9, g10, g11, g12, g13, g14⟩ := y1.all
                    have qx7_0 := x7.c0
                    have qx7_1 := x7.c1
                    go_wp2_with fail
                    ((with_reducible refine (S1.out.of hG hb).mono ?_); rintro e w5 ⟨rfl, hb5⟩)
                    clear g0 g1 g2 g3 g4 g5 g6 g7 g8 g9 g10 g11 g12 g13 g14 qx7_0 qx7_1
                    replace y1 := y1.below hb5
                    replace x7 := x7.below hb5
                    replace hb := bto hb hb5
                    clear hb5
                    obtain ⟨g0, g1, g2, g3, g4, g5, g6, g7, g8, g9, g10, g11, g12, g13, g14⟩ := y1.all
                    have qx7_0 := x7.c0
                    have qx7_1 := x7.c1
                    go_wp2_with fail
                    ((with_reducible refine (S2.out.of hG hb).mono ?_); rintro e w6 ⟨rfl, hb6⟩)
                    clear g0 g1 g2 g3 g4 g5 g6 g7 g8 g9 g10 g11 g12 g13 g14 qx7_0 qx7_1
                    replace y1 := y1.below hb6
                    replace x7 := x7.below hb6
                    replace hb := bto hb hb6
                    clear hb6
                    obtain ⟨g0, g1, g2, g3, g4, g5, g6, g7, g8, g9, g10, g11, g12, g13, g14⟩ := y1.all
                    have qx7_0 := x7.c0
                    have qx7_1 := x7.c1
                    go_wp2
                    go_ret
                    exact ⟨reti (HV.out.trans HO.out).symm, hb⟩
                   ·have ba5 : decide (5 < x.count) = false := decide_eq_false a5
                    by_cases a6 : x.other = []
                    ·have ba6 : (x.other == []) = true := by rw [beq_iff_eq]; exact a6
                     have ea6 : (x.other).isEmpty = true := by rw [List.isEmpty_iff]; exact a6
                     by_cases a7 : sg x.sn = 0
                     ·have ba7 := (sg_zero ZC.out a7).1
                      have ca7 := (sg_zero ZC.out a7).2
                      have HO : Hid (tailE x = 0) := by show _ = _; rw [HQ.out]; rw [HO2.out]; unfold bondE; rw [if_neg (fun h => h.elim a1 (fun h => h.elim a2 (fun h => h.elim (fun h => h HB.out) (fun h => h.elim a4 a5))))]; exact if_neg (fun h => h.elim (fun h => h a6) (fun h => h a7))
                      clear a1 a2 a4 a5 a6 a7
                      obtain ⟨g0, g1, g2, g3, g4, g5, g6, g7, g8, g9, g10, g11, g12, g13, g14⟩ := y1.all
                      have qx7_0 := x7.c0
                      have qx7_1 := x7.c1
                      go_wp2_with fail
                      ((with_reducible refine (S1.out.of hG hb).mono ?_); rintro e w5 ⟨rfl, hb5⟩)
                      clear g0 g1 g2 g3 g4 g5 g6 g7 g8 g9 g10 g11 g12 g13 g14 qx7_0 qx7_1
                      replace y1 := y1.below hb5
                      replace x7 := x7.below hb5
                      replace hb := bto hb hb5
                      clear hb5
                      obtain ⟨g0, g1, g2, g3, g4, g5, g6, g7, g8, g9, g10, g11, g12, g13, g14⟩ := y1.all
                      have qx7_0 := x7.c0
                      have qx7_1 := x7.c1
                      go_wp2_with fail
                      ((with_reducible refine (S2.out.of hG hb).mono ?_); rintro e w6 ⟨rfl, hb6⟩)
                      clear g0 g1 g2 g3 g4 g5 g6 g7 g8 g9 g10 g11 g12 g13 g14 qx7_0 qx7_1
                      replace y1 := y1.below hb6
                      replace x7 := x7.below hb6
                      replace hb := bto hb hb6
                      clear hb6
                      obtain ⟨g0, g1, g2, g3, g4, g5, g6, g7, g8, g9, g10, g11, g12, g13, g14⟩ := y1.all
                      have qx7_0 := x7.c0
                      have qx7_1 := x7.c1
                      go_wp2
                      go_ret
                      exact ⟨reti (HV.out.trans HO.out).symm, hb⟩
                     ·have ba7 := sg_nil a7
                      have HO : Hid (tailE x = 1) := by show _ = _; rw [HQ.out]; rw [HO2.out]; unfold bondE; rw [if_neg (fun h => h.elim a1 (fun h => h.elim a2 (fun h => h.elim (fun h => h HB.out) (fun h => h.elim a4 a5))))]; exact if_pos (.inr a7)
                      clear a1 a2 a4 a5 a6 a7
                      obtain ⟨g0, g1, g2, g3, g4, g5, g6, g7, g8, g9, g10, g11, g12, g13, g14⟩ := y1.all
                      have qx7_0 := x7.c0
                      have qx7_1 := x7.c1
                      go_wp2_with fail
                      ((with_reducible refine (S1.out.of hG hb).mono ?_); rintro e w5 ⟨rfl, hb5⟩)
                      clear g0 g1 g2 g3 g4 g5 g6 g7 g8 g9 g10 g11 g12 g13 g14 qx7_0 qx7_1
                      replace y1 := y1.below hb5
                      replace x7 := x7.below hb5
                      replace hb := bto hb hb5
                      clear hb5
                      obtain ⟨g0, g1, g2, g3, g4, g5, g6, g7, g8, g9, g10, g11, g12, g13, g14⟩ := y1.all
                      have qx7_0 := x7.c0
                      have qx7_1 := x7.c1
                      go_wp2_with fail
                      ((with_reducible refine (S2.out.of hG hb).mono ?_); rintro e w6 ⟨rfl, hb6⟩)
                      clear g0 g1 g2 g3 g4 g5 g6 g7 g8 g9 g10 g11 g12 g13 g14 qx7_0 qx7_1
                      replace y1 := y1.below hb6
                      replace x7 := x7.below hb6
                      replace hb := bto hb hb6
                      clear hb6
                      obtain ⟨g0, g1, g2, g3, g4, g5, g6, g7, g8, g9, g10, g11, g12, g13, g14⟩ := y1.all
                      have qx7_0 := x7.c0
                      have qx7_1 := x7.c1
                      go_wp2
                      go_ret
                      exact ⟨reti (HV.out.trans HO.out).symm, hb⟩
                    ·have ba6 : (x.other == []) = false := by rw [beq_eq_false_iff_ne]; exact a6
                     have ea6 : (x.other).isEmpty = false := by rw [List.isEmpty_eq_false_iff]; exact a6
                     have HO : Hid (tailE x = 1) := by show _ = _; rw [HQ.out]; rw [HO2.out]; unfold bondE; rw [if_neg (fun h => h.elim a1 (fun h => h.elim a2 (fun h => h.elim (fun h => h HB.out) (fun h => h.elim a4 a5))))]; exact if_pos (.inl a6)
                     clear a1 a2 a4 a5 a6
                     obtain ⟨g0, g1, g2, g3, g4, g5, g6, g7, g8, g9, g10, g11, g12, g13, g14⟩ := y1.all
                     have qx7_0 := x7.c0
                     have qx7_1 := x7.c1
                     go_wp2_with fail
                     ((with_reducible refine (S1.out.of hG hb).mono ?_); rintro e w5 ⟨rfl, hb5⟩)
                     clear g0 g1 g2 g3 g4 g5 g6 g7 g8 g9 g10 g11 g12 g13 g14 qx7_0 qx7_1
                     replace y1 := y1.below hb5
                     replace x7 := x7.below hb5
                     replace hb := bto hb hb5
                     clear hb5
                     obtain ⟨g0, g1, g2, g3, g4, g5, g6, g7, g8, g9, g10, g11, g12, g13, g14⟩ := y1.all
                     have qx7_0 := x7.c0
                     have qx7_1 := x7.c1
                     go_wp2_with fail
                     ((with_reducible refine (S2.out.of hG hb).mono ?_); rintro e w6 ⟨rfl, hb6⟩)
                     clear g0 g1 g2 g3 g4 g5 g6 g7 g8 g9 g10 g11 g12 g13 g14 qx7_0 qx7_1
                     replace y1 := y1.below hb6
                     replace x7 := x7.below hb6
                     replace hb := bto hb hb6
                     clear hb6
                     obtain ⟨g0, g1, g2, g3, g4, g5, g6, g7, g8, g9, g10, g11, g12, g13, g14⟩ := y1.all
                     have qx7_0 := x7.c0
                     have qx7_1 := x7.c1
                     go_wp2
                     go_ret
                     exact ⟨reti (HV.out.trans HO.out).symm, hb⟩
               ·by_cases a1 : sg x.fn ≤ 0
                ·have ba1 : decide (sg x.fn ≤ 0) = true := decide_eq_true a1
                 have HO : Hid (tailE x = 2) := by show _ = _; rw [HQ.out]; rw [HO2.out]; unfold bondE; exact if_pos (.inl a1)
                 obtain ⟨g0, g1, g2, g3, g4, g5, g6, g7, g8, g9, g10, g11, g12, g13, g14⟩ := y1.all
                 have qx7_0 := x7.c0
                 have qx7_1 := x7.c1
                 go_wp2_with fail
                 ((with_reducible refine (S1.out.of hG hb).mono ?_); rintro e w5 ⟨rfl, hb5⟩)
                 clear g0 g1 g2 g3 g4 g5 g6 g7 g8 g9 g10 g11 g12 g13 g14 qx7_0 qx7_1
                 replace y1 := y1.below hb5
                 replace x7 := x7.below hb5
                 replace hb := bto hb hb5
                 clear hb5
                 obtain ⟨g0, g1, g2, g3, g4, g5, g6, g7, g8, g9, g10, g11, g12, g13, g14⟩ := y1.all
                 have qx7_0 := x7.c0
                 have qx7_1 := x7.c1
                 go_wp2
                 go_ret
                 exact ⟨reti (HV.out.trans HO.out).symm, hb⟩
                ·have ba1 : decide (sg x.fn ≤ 0) = false := decide_eq_false a1
                 by_cases a2 : sg x.cn < 0
                 ·have ba2 : decide (sg x.cn < 0) = true := decide_eq_true a2
                  have HO : Hid (tailE x = 2) := by show _ = _; rw [HQ.out]; rw [HO2.out]; unfold bondE; exact if_pos (.inr (.inl a2))
                  obtain ⟨g0, g1, g2, g3, g4, g5, g6, g7, g8, g9, g10, g11, g12, g13, g14⟩ := y1.all
                  have qx7_0 := x7.c0
                  have qx7_1 := x7.c1
                  go_wp2_with fail
                  ((with_reducible refine (S1.out.of hG hb).mono ?_); rintro e w5 ⟨rfl, hb5⟩)
                  clear g0 g1 g2 g3 g4 g5 g6 g7 g8 g9 g10 g11 g12 g13 g14 qx7_0 qx7_1
                  replace y1 := y1.below hb5
                  replace x7 := x7.below hb5
                  replace hb := bto hb hb5
                  clear hb5
                  obtain ⟨g0, g1, g2, g3, g4, g5, g6, g7, g8, g9, g10, g11, g12, g13, g14⟩ := y1.all
                  have qx7_0 := x7.c0
                  have qx7_1 := x7.c1
                  go_wp2_with fail
                  ((with_reducible refine (S2.out.of hG hb).mono ?_); rintro e w6 ⟨rfl, hb6⟩)
                  clear g0 g1 g2 g3 g4 g5 g6 g7 g8 g9 g10 g11 g12 g13 g14 qx7_0 qx7_1
                  replace y1 := y1.below hb6
                  replace x7 := x7.below hb6
                  replace hb := bto hb hb6
                  clear hb6
                  obtain ⟨g0, g1, g2, g3, g4, g5, g6, g7, g8, g9, g10, g11, g12, g13, g14⟩ := y1.all
                  have qx7_0 := x7.c0
                  have qx7_1 := x7.c1
                  go_wp2
                  go_ret
                  exact ⟨reti (HV.out.trans HO.out).symm, hb⟩
                 ·have ba2 : decide (sg x.cn < 0) = false := decide_eq_false a2
                  have HO : Hid (tailE x = 2) := by show _ = _; rw [HQ.out]; rw [HO2.out]; unfold bondE; exact if_pos (.inr (.inr (.inl (by rw [HB.out]; decide))))
                  obtain ⟨g0, g1, g2, g3, g4, g5, g6, g7, g8, g9, g10, g11, g12, g13, g14⟩ := y1.all
                  have qx7_0 := x7.c0
                  have qx7_1 := x7.c1
                  go_wp2_with fail
                  ((with_reducible refine (S1.out.of hG hb).mono ?_); rintro e w5 ⟨rfl, hb5⟩)
                  clear g0 g1 g2 g3 g4 g5 g6 g7 g8 g9 g10 g11 g12 g13 g14 qx7_0 qx7_1
                  replace y1 := y1.below hb5
                  replace x7 := x7.below hb5
                  replace hb := bto hb hb5
                  clear hb5
                  obtain ⟨g0, g1, g2, g3, g4, g5, g6, g7, g8, g9, g10, g11, g12, g13, g14⟩ := y1.all
                  have qx7_0 := x7.c0
                  have qx7_1 := x7.c1
                  go_wp2_with fail
                  ((with_reducible refine (S2.out.of hG hb).mono ?_); rintro e w6 ⟨rfl, hb6⟩)
                  clear g0 g1 g2 g3 g4 g5 g6 g7 g8 g9 g10 g11 g12 g13 g14 qx7_0 qx7_1
                  replace y1 := y1.below hb6
                  replace x7 := x7.below hb6
                  replace hb := bto hb hb6
                  clear hb6
                  obtain ⟨g0, g1, g2, g3, g4, g5, g6, g7, g8, g9, g10, g11, g12, g13, g14⟩ := y1.all
                  have qx7_0 := x7.c0
                  have qx7_1 := x7.c1
                  go_wp2
                  go_ret
                  exact ⟨reti (HV.out.trans HO.out).symm, hb⟩
             ·have e2 : (x.kind == 2) = false := by rw [beq_eq_false_iff_ne]; exact k2
              by_cases k5 : x.kind = 5
              ·have e5 : (x.kind == 5) = true := by rw [beq_iff_eq]; exact k5
               have HO2 : Hid (ownE x = fwdE x) := by show _ = _; unfold ownE; rw [if_neg k2, if_pos k5]
               clear k2 k5
               by_cases a1 : codeB x.other = true
               ·have ba1 := a1
                by_cases a7 : x.other = x.cur
                ·have ba7 : (x.other == x.cur) = true := by rw [beq_iff_eq]; exact a7
                 have HO : Hid (tailE x = 12) := by show _ = _; rw [HQ.out]; rw [HO2.out]; unfold fwdE; exact if_pos (.inr a7)
                 clear a1 a7
                 obtain ⟨g0, g1, g2, g3, g4, g5, g6, g7, g8, g9, g10, g11, g12, g13, g14⟩ := y1.all
                 have qx7_0 := x7.c0
                 have qx7_1 := x7.c1
                 go_wp2_with fail
                 ((with_reducible refine (C5.out.of hG hb).mono ?_); rintro e w5 ⟨rfl, hb5⟩)
                 clear g0 g1 g2 g3 g4 g5 g6 g7 g8 g9 g10 g11 g12 g13 g14 qx7_0 qx7_1
                 replace y1 := y1.below hb5
                 replace x7 := x7.below hb5
                 replace hb := bto hb hb5
                 clear hb5
                 obtain ⟨g0, g1, g2, g3, g4, g5, g6, g7, g8, g9, g10, g11, g12, g13, g14⟩ := y1.all
                 have qx7_0 := x7.c0
                 have qx7_1 := x7.c1
                 go_wp2
                 go_ret
                 exact ⟨reti (HV.out.trans HO.out).symm, hb⟩
                ·have ba7 : (x.other == x.cur) = false := by rw [beq_eq_false_iff_ne]; exact a7
                 by_cases a2 : sg x.sn ≤ 0
                 ·have ba2 : decide (sg x.sn ≤ 0) = true := decide_eq_true a2
                  have HO : Hid (tailE x = 2) := by show _ = _; rw [HQ.out]; rw [HO2.out]; unfold fwdE; rw [if_neg (fun h => h.elim (fun h => h a1) a7)]; exact if_pos a2
                  clear a1 a7 a2
                  obtain ⟨g0, g1, g2, g3, g4, g5, g6, g7, g8, g9, g10, g11, g12, g13, g14⟩ := y1.all
                  have qx7_0 := x7.c0
                  have qx7_1 := x7.c1
                  go_wp2_with fail
                  ((with_reducible refine (C5.out.of hG hb).mono ?_); rintro e w5 ⟨rfl, hb5⟩)
                  clear g0 g1 g2 g3 g4 g5 g6 g7 g8 g9 g10 g11 g12 g13 g14 qx7_0 qx7_1
                  replace y1 := y1.below hb5
                  replace x7 := x7.below hb5
                  replace hb := bto hb hb5
                  clear hb5
                  obtain ⟨g0, g1, g2, g3, g4, g5, g6, g7, g8, g9, g10, g11, g12, g13, g14⟩ := y1.all
                  have qx7_0 := x7.c0
                  have qx7_1 := x7.c1
                  go_wp2_with fail
                  ((with_reducible refine (S3.out.of hG hb).mono ?_); rintro e w6 ⟨rfl, hb6⟩)
                  clear g0 g1 g2 g3 g4 g5 g6 g7 g8 g9 g10 g11 g12 g13 g14 qx7_0 qx7_1
                  replace y1 := y1.below hb6
                  replace x7 := x7.below hb6
                  replace hb := bto hb hb6
                  clear hb6
                  obtain ⟨g0, g1, g2, g3, g4, g5, g6, g7, g8, g9, g10, g11, g12, g13, g14⟩ := y1.all
                  have qx7_0 := x7.c0
                  have qx7_1 := x7.c1
                  go_wp2
                  go_ret
                  exact ⟨reti (HV.out.trans HO.out).symm, hb⟩
                 ·have ba2 : decide (sg x.sn ≤ 0) = false := decide_eq_false a2
                  by_cases a3 : sg x.fn = 0
                  ·have ba3 := (sg_zero ZA.out a3).1
                   have ca3 := (sg_zero ZA.out a3).2
                   by_cases a4 : sg x.cn = 0
                   ·have ba4 := (sg_zero ZB.out a4).1
                    have ca4 := (sg_zero ZB.out a4).2
                    by_cases a5 : x.months = 0
                    ·have ba5 : (x.months == 0) = true := by rw [beq_iff_eq]; exact a5
                     have na5 := bneq ba5
                     by_cases a6 : x.count = 0
                     ·have ba6 : (x.count == 0) = true := by rw [beq_iff_eq]; exact a6
                      have na6 := bneq ba6
                      have HO : Hid (tailE x = 0) := by show _ = _; rw [HQ.out]; rw [HO2.out]; unfold fwdE; rw [if_neg (fun h => h.elim (fun h => h a1) a7), if_neg a2]; exact if_neg (fun h => h.elim (fun h => h a3) (fun h => h.elim (fun h => h a4) (fun h => h.elim (fun h => h a5) (fun h => h a6))))
                      clear a1 a7 a2 a3 a4 a5 a6
                      obtain ⟨g0, g1, g2, g3, g4, g5, g6, g7, g8, g9, g10, g11, g12, g13, g14⟩ := y1.all
                      have qx7_0 := x7.c0
                      have qx7_1 := x7.c1
                      go_wp2_with fail
                      ((with_reducible refine (C5.out.of hG hb).mono ?_); rintro e w5 ⟨rfl, hb5⟩)
                      clear g0 g1 g2 g3 g4 g5 g6 g7 g8 g9 g10 g11 g12 g13 g14 qx7_0 qx7_1
                      replace y1 := y1.below hb5
                      replace x7 := x7.below hb5
                      replace hb := bto hb hb5
                      clear hb5
                      obtain ⟨g0, g1, g2, g3, g4, g5, g6, g7, g8, g9, g10, g11, g12, g13, g14⟩ := y1.all
                      have qx7_0 := x7.c0
                      have qx7_1 := x7.c1
                      go_wp2_with fail
                      ((with_reducible refine (S3.out.of hG hb).mono ?_); rintro e w6 ⟨rfl, hb6⟩)
                      clear g0 g1 g2 g3 g4 g5 g6 g7 g8 g9 g10 g11 g12 g13 g14 qx7_0 qx7_1
                      replace y1 := y1.below hb6
                      replace x7 := x7.below hb6
                      replace hb := bto hb hb6
                      clear hb6
                      obtain ⟨g0, g1, g2, g3, g4, g5, g6, g7, g8, g9, g10, g11, g12, g13, g14⟩ := y1.all
                      have qx7_0 := x7.c0
                      have qx7_1 := x7.c1
                      go_wp2
                      go_ret
                      exact ⟨reti (HV.out.trans HO.out).symm, hb⟩
                     ·have ba6 : (x.count == 0) = false := by rw [beq_eq_false_iff_ne]; exact a6
                      have na6 := bneq' ba6
                      have HO : Hid (tailE x = 1) := by show _ = _; rw [HQ.out]; rw [HO2.out]; unfold fwdE; rw [if_neg (fun h => h.elim (fun h => h a1) a7), if_neg a2]; exact if_pos (.inr (.inr (.inr a6)))
                      clear a1 a7 a2 a3 a4 a5 a6
                      obtain ⟨g0, g1, g2, g3, g4, g5, g6, g7, g8, g9, g10, g11, g12, g13, g14⟩ := y1.all
                      have qx7_0 := x7.c0
                      have qx7_1 := x7.c1
                      go_wp2_with fail
                      ((with_reducible refine (C5.out.of hG hb).mono ?_); rintro e w5 ⟨rfl, hb5⟩)
                      clear g0 g1 g2 g3 g4 g5 g6 g7 g8 g9 g10 g11 g12 g13 g14 qx7_0 qx7_1
                      replace y1 := y1.below hb5
                      replace x7 := x7.below hb5
                      replace hb := bto hb hb5
                      clear hb5
                      obtain ⟨g0, g1, g2, g3, g4, g5, g6, g7, g8, g9, g10, g11, g12, g13, g14⟩ := y1.all
                      have qx7_0 := x7.c0
                      have qx7_1 := x7.c1
                      go_wp2_with fail
                      ((with_reducible refine (S3.out.of hG hb).mono ?_); rintro e w6 ⟨rfl, hb6⟩)
                      clear g0 g1 g2 g3 g4 g5 g6 g7 g8 g9 g10 g11 g12 g13 g14 qx7_0 qx7_1
                      replace y1 := y1.below hb6
                      replace x7 := x7.below hb6
                      replace hb := bto hb hb6
                      clear hb6
                      obtain ⟨g0, g1, g2, g3, g4, g5, g6, g7, g8, g9, g10, g11, g12, g13, g14⟩ := y1.all
                      have qx7_0 := x7.c0
                      have qx7_1 := x7.c1
                      go_wp2
                      go_ret
                      exact ⟨reti (HV.out.trans HO.out).symm, hb⟩
                    ·have ba5 : (x.months == 0) = false := by rw [beq_eq_false_iff_ne]; exact a5
                     have na5 := bneq' ba5
                     have HO : Hid (tailE x = 1) := by show _ = _; rw [HQ.out]; rw [HO2.out]; unfold fwdE; rw [if_neg (fun h => h.elim (fun h => h a1) a7), if_neg a2]; exact if_pos (.inr (.inr (.inl a5)))
                     clear a1 a7 a2 a3 a4 a5
                     obtain ⟨g0, g1, g2, g3, g4, g5, g6, g7, g8, g9, g10, g11, g12, g13, g14⟩ := y1.all
                     have qx7_0 := x7.c0
                     have qx7_1 := x7.c1
                     go_wp2_with fail
                     ((with_reducible refine (C5.out.of hG hb).mono ?_); rintro e w5 ⟨rfl, hb5⟩)
                     clear g0 g1 g2 g3 g4 g5 g6 g7 g8 g9 g10 g11 g12 g13 g14 qx7_0 qx7_1
                     replace y1 := y1.below hb5
                     replace x7 := x7.below hb5
                     replace hb := bto hb hb5
                     clear hb5
                     obtain ⟨g0, g1, g2, g3, g4, g5, g6, g7, g8, g9, g10, g11, g12, g13, g14⟩ := y1.all
                     have qx7_0 := x7.c0
                     have qx7_1 := x7.c1
                     go_wp2_with fail
                     ((with_reducible refine (S3.out.of hG hb).mono ?_); rintro e w6 ⟨rfl, hb6⟩)
                     clear g0 g1 g2 g3 g4 g5 g6 g7 g8 g9 g10 g11 g12 g13 g14 qx7_0 qx7_1
                     replace y1 := y1.below hb6
                     replace x7 := x7.below hb6
                     replace hb := bto hb hb6
                     clear hb6
                     obtain ⟨g0, g1, g2, g3, g4, g5, g6, g7, g8, g9, g10, g11, g12, g13, g14⟩ := y1.all
                     have qx7_0 := x7.c0
                     have qx7_1 := x7.c1
                     go_wp2
                     go_ret
                     exact ⟨reti (HV.out.trans HO.out).symm, hb⟩
                   ·have ba4 := sg_nil a4
                    have HO : Hid (tailE x = 1) := by show _ = _; rw [HQ.out]; rw [HO2.out]; unfold fwdE; rw [if_neg (fun h => h.elim (fun h => h a1) a7), if_neg a2]; exact if_pos (.inr (.inl a4))
                    clear a1 a7 a2 a3 a4
                    obtain ⟨g0, g1, g2, g3, g4, g5, g6, g7, g8, g9, g10, g11, g12, g13, g14⟩ := y1.all
                    have qx7_0 := x7.c0
                    have qx7_1 := x7.c1
                    go_wp2_with fail
                    ((with_reducible refine (C5.out.of hG hb).mono ?_); rintro e w5 ⟨rfl, hb5⟩)
                    clear g0 g1 g2 g3 g4 g5 g6 g7 g8 g9 g10 g11 g12 g13 g14 qx7_0 qx7_1
                    replace y1 := y1.below hb5
                    replace x7 := x7.below hb5
                    replace hb := bto hb hb5
                    clear hb5
                    obtain ⟨g0, g1, g2, g3, g4, g5, g6, g7, g8, g9, g10, g11, g12, g13, g14⟩ := y1.all
                    have qx7_0 := x7.c0
                    have qx7_1 := x7.c1
                    go_wp2_with fail
                    ((with_reducible refine (S3.out.of hG hb).mono ?_); rintro e w6 ⟨rfl, hb6⟩)
                    clear g0 g1 g2 g3 g4 g5 g6 g7 g8 g9 g10 g11 g12 g13 g14 qx7_0 qx7_1
                    replace y1 := y1.below hb6
                    replace x7 := x7.below hb6
                    replace hb := bto hb hb6
                    clear hb6
                    obtain ⟨g0, g1, g2, g3, g4, g5, g6, g7, g8, g9, g10, g11, g12, g13, g14⟩ := y1.all
                    have qx7_0 := x7.c0
                    have qx7_1 := x7.c1
                    go_wp2
                    go_ret
                    exact ⟨reti (HV.out.trans HO.out).symm, hb⟩
                  ·have ba3 := sg_nil a3
                   have HO : Hid (tailE x = 1) := by show _ = _; rw [HQ.out]; rw [HO2.out]; unfold fwdE; rw [if_neg (fun h => h.elim (fun h => h a1) a7), if_neg a2]; exact if_pos (.inl a3)
                   clear a1 a7 a2 a3
                   obtain ⟨g0, g1, g2, g3, g4, g5, g6, g7, g8, g9, g10, g11, g12, g13, g14⟩ := y1.all
                   have qx7_0 := x7.c0
                   have qx7_1 := x7.c1
                   go_wp2_with fail
                   ((with_reducible refine (C5.out.of hG hb).mono ?_); rintro e w5 ⟨rfl, hb5⟩)
                   clear g0 g1 g2 g3 g4 g5 g6 g7 g8 g9 g10 g11 g12 g13 g14 qx7_0 qx7_1
                   replace y1 := y1.below hb5
                   replace x7 := x7.below hb5
                   replace hb := bto hb hb5
                   clear hb5
                   obtain ⟨g0, g1, g2, g3, g4, g5, g6, g7, g8, g9, g10, g11, g12, g13, g14⟩ := y1.all
                   have qx7_0 := x7.c0
                   have qx7_1 := x7.c1
                   go_wp2_with fail
                   ((with_reducible refine (S3.out.of hG hb).mono ?_); rintro e w6 ⟨rfl, hb6⟩)
                   clear g0 g1 g2 g3 g4 g5 g6 g7 g8 g9 g10 g11 g12 g13 g14 qx7_0 qx7_1
                   replace y1 := y1.below hb6
                   replace x7 := x7.below hb6
                   replace hb := bto hb hb6
                   clear hb6
                   obtain ⟨g0, g1, g2, g3, g4, g5, g6, g7, g8, g9, g10, g11, g12, g13, g14⟩ := y1.all
                   have qx7_0 := x7.c0
                   have qx7_1 := x7.c1
                   go_wp2
                   go_ret
                   exact ⟨reti (HV.out.trans HO.out).symm, hb⟩
               ·have ba1 : codeB x.other = false := not_true_b a1
                have HO : Hid (tailE x = 12) := by show _ = _; rw [HQ.out]; rw [HO2.out]; unfold fwdE; exact if_pos (.inl a1)
                clear a1
                obtain ⟨g0, g1, g2, g3, g4, g5, g6, g7, g8, g9, g10, g11, g12, g13, g14⟩ := y1.all
                have qx7_0 := x7.c0
                have qx7_1 := x7.c1
                go_wp2_with fail
                ((with_reducible refine (C5.out.of hG hb).mono ?_); rintro e w5 ⟨rfl, hb5⟩)
                clear g0 g1 g2 g3 g4 g5 g6 g7 g8 g9 g10 g11 g12 g13 g14 qx7_0 qx7_1
                replace y1 := y1.below hb5
                replace x7 := x7.below hb5
                replace hb := bto hb hb5
                clear hb5
                obtain ⟨g0, g1, g2, g3, g4, g5, g6, g7, g8, g9, g10, g11, g12, g13, g14⟩ := y1.all
                have qx7_0 := x7.c0
                have qx7_1 := x7.c1
                go_wp2
                go_ret
                exact ⟨reti (HV.out.trans HO.out).symm, hb⟩
              ·have e5 : (x.kind == 5) = false := by rw [beq_eq_false_iff_ne]; exact k5
               have HO2 : Hid (ownE x = plainE x) := by show _ = _; unfold ownE; rw [if_neg k2, if_neg k5]
               clear k2 k5 C5
               by_cases a6 : x.other = []
               ·have ba6 : (x.other == []) = true := by rw [beq_iff_eq]; exact a6
                have ea6 : (x.other).isEmpty = true := by rw [List.isEmpty_iff]; exact a6
                by_cases a5 : sg x.sn = 0
                ·have ba5 := (sg_zero ZC.out a5).1
                 have ca5 := (sg_zero ZC.out a5).2
                 by_cases a1 : sg x.fn = 0
                 ·have ba1 := (sg_zero ZA.out a1).1
                  have ca1 := (sg_zero ZA.out a1).2
                  by_cases a2 : sg x.cn = 0
                  ·have ba2 := (sg_zero ZB.out a2).1
                   have ca2 := (sg_zero ZB.out a2).2
                   by_cases a3 : x.months = 0
                   ·have ba3 : (x.months == 0) = true := by rw [beq_iff_eq]; exact a3
                    have na3 := bneq ba3
                    by_cases a4 : x.count = 0
                    ·have ba4 : (x.count == 0) = true := by rw [beq_iff_eq]; exact a4
                     have na4 := bneq ba4
                     have HO : Hid (tailE x = 0) := by show _ = _; rw [HQ.out]; rw [HO2.out]; unfold plainE; exact if_neg (fun h => h.elim (fun h => h a1) (fun h => h.elim (fun h => h a2) (fun h => h.elim (fun h => h a3) (fun h => h.elim (fun h => h a4) (fun h => h.elim (fun h => h a5) (fun h => h a6))))))
                     clear a6 a5 a1 a2 a3 a4
                     obtain ⟨g0, g1, g2, g3, g4, g5, g6, g7, g8, g9, g10, g11, g12, g13, g14⟩ := y1.all
                     have qx7_0 := x7.c0
                     have qx7_1 := x7.c1
                     go_wp2
                     go_ret
                     exact ⟨reti (HV.out.trans HO.out).symm, hb⟩
                    ·have ba4 : (x.count == 0) = false := by rw [beq_eq_false_iff_ne]; exact a4
                     have na4 := bneq' ba4
                     have HO : Hid (tailE x = 1) := by show _ = _; rw [HQ.out]; rw [HO2.out]; unfold plainE; exact if_pos (.inr (.inr (.inr (.inl a4))))
                     clear a6 a5 a1 a2 a3 a4
                     obtain ⟨g0, g1, g2, g3, g4, g5, g6, g7, g8, g9, g10, g11, g12, g13, g14⟩ := y1.all
                     have qx7_0 := x7.c0
                     have qx7_1 := x7.c1
                     go_wp2
                     go_ret
                     exact ⟨reti (HV.out.trans HO.out).symm, hb⟩
                   ·have ba3 : (x.months == 0) = false := by rw [beq_eq_false_iff_ne]; exact a3
                    have na3 := bneq' ba3
                    have HO : Hid (tailE x = 1) := by show _ = _; rw [HQ.out]; rw [HO2.out]; unfold plainE; exact if_pos (.inr (.inr (.inl a3)))
                    clear a6 a5 a1 a2 a3
                    obtain ⟨g0, g1, g2, g3, g4, g5, g6, g7, g8, g9, g10, g11, g12, g13, g14⟩ := y1.all
                    have qx7_0 := x7.c0
                    have qx7_1 := x7.c1
                    go_wp2
                    go_ret
                    exact ⟨reti (HV.out.trans HO.out).symm, hb⟩
                  ·have ba2 := sg_nil a2
                   have HO : Hid (tailE x = 1) := by show _ = _; rw [HQ.out]; rw [HO2.out]; unfold plainE; exact if_pos (.inr (.inl a2))
                   clear a6 a5 a1 a2
                   obtain ⟨g0, g1, g2, g3, g4, g5, g6, g7, g8, g9, g10, g11, g12, g13, g14⟩ := y1.all
                   have qx7_0 := x7.c0
                   have qx7_1 := x7.c1
                   go_wp2
                   go_ret
                   exact ⟨reti (HV.out.trans HO.out).symm, hb⟩
                 ·have ba1 := sg_nil a1
                  have HO : Hid (tailE x = 1) := by show _ = _; rw [HQ.out]; rw [HO2.out]; unfold plainE; exact if_pos (.inl a1)
                  clear a6 a5 a1
                  obtain ⟨g0, g1, g2, g3, g4, g5, g6, g7, g8, g9, g10, g11, g12, g13, g14⟩ := y1.all
                  have qx7_0 := x7.c0
                  have qx7_1 := x7.c1
                  go_wp2
                  go_ret
                  exact ⟨reti (HV.out.trans HO.out).symm, hb⟩
                ·have ba5 := sg_nil a5
                 have HO : Hid (tailE x = 1) := by show _ = _; rw [HQ.out]; rw [HO2.out]; unfold plainE; exact if_pos (.inr (.inr (.inr (.inr (.inl a5)))))
                 clear a6 a5
                 obtain ⟨g0, g1, g2, g3, g4, g5, g6, g7, g8, g9, g10, g11, g12, g13, g14⟩ := y1.all
                 have qx7_0 := x7.c0
                 have qx7_1 := x7.c1
                 go_wp2
                 go_ret
                 exact ⟨reti (HV.out.trans HO.out).symm, hb⟩
               ·have ba6 : (x.other == []) = false := by rw [beq_eq_false_iff_ne]; exact a6
                have ea6 : (x.other).isEmpty = false := by rw [List.isEmpty_eq_false_iff]; exact a6
                have HO : Hid (tailE x = 1) := by show _ = _; rw [HQ.out]; rw [HO2.out]; unfold plainE; exact if_pos (.inr (.inr (.inr (.inr (.inr a6)))))
                clear a6
                obtain ⟨g0, g1, g2, g3, g4, g5, g6, g7, g8, g9, g10, g11, g12, g13, g14⟩ := y1.all
                have qx7_0 := x7.c0
                have qx7_1 := x7.c1
                go_wp2
                go_ret
                exact ⟨reti (HV.out.trans HO.out).symm, hb⟩
       ·have bh7 : dayB x.issued = false := not_true_b h7
        have HV : Hid (chkE x = 13) := by show _ = _; unfold chkE; rw [if_neg (fun h => h h1), if_neg (fun h => h.elim h2 h3), if_neg (fun h => h h4), if_neg (fun h => h.elim h5 h6), if_pos h7]
        rw [dayE_f h7] at C3
        clear h1 h4 h7
        go_enter Tryz.func97, Tryz.ntmps97
        obtain ⟨qx1_0, qx1_1, qx1_2, qx1_3, qx1_4, qx1_5, qx1_6, qx1_7, qx1_8, qx1_9, qx1_10, qx1_11, qx1_12, qx1_13, qx1_14⟩ := x1.all
        go_wp2_with fail
        ((with_reducible refine (C1.out.of hG hb).mono ?_); rintro e w2 ⟨rfl, hb2⟩)
        clear qx1_0 qx1_1 qx1_2 qx1_3 qx1_4 qx1_5 qx1_6 qx1_7 qx1_8 qx1_9 qx1_10 qx1_11 qx1_12 qx1_13 qx1_14
        replace x1 := x1.below hb2
        replace hb := bto hb hb2
        clear hb2
        obtain ⟨qx1_0, qx1_1, qx1_2, qx1_3, qx1_4, qx1_5, qx1_6, qx1_7, qx1_8, qx1_9, qx1_10, qx1_11, qx1_12, qx1_13, qx1_14⟩ := x1.all
        go_wp2_with fail
        ((with_reducible refine (C2.out.of hG hb).mono ?_); rintro e w3 ⟨rfl, hb3⟩)
        clear qx1_0 qx1_1 qx1_2 qx1_3 qx1_4 qx1_5 qx1_6 qx1_7 qx1_8 qx1_9 qx1_10 qx1_11 qx1_12 qx1_13 qx1_14
        replace x1 := x1.below hb3
        replace hb := bto hb hb3
        clear hb3
        obtain ⟨qx1_0, qx1_1, qx1_2, qx1_3, qx1_4, qx1_5, qx1_6, qx1_7, qx1_8, qx1_9, qx1_10, qx1_11, qx1_12, qx1_13, qx1_14⟩ := x1.all
        go_wp2_with fail
        ((with_reducible refine (C3.out.of hG hb).mono ?_); rintro e w4 ⟨rfl, hb4⟩)
        clear qx1_0 qx1_1 qx1_2 qx1_3 qx1_4 qx1_5 qx1_6 qx1_7 qx1_8 qx1_9 qx1_10 qx1_11 qx1_12 qx1_13 qx1_14
        replace x1 := x1.below hb4
        replace hb := bto hb hb4
        clear hb4
        obtain ⟨qx1_0, qx1_1, qx1_2, qx1_3, qx1_4, qx1_5, qx1_6, qx1_7, qx1_8, qx1_9, qx1_10, qx1_11, qx1_12, qx1_13, qx1_14⟩ := x1.all
        go_wp2
        go_ret
        exact ⟨reti HV.out.symm, hb⟩
    ·have bh4 : codeB x.cur = false := not_true_b h4
     have HV : Hid (chkE x = 12) := by show _ = _; unfold chkE; rw [if_neg (fun h => h h1), if_neg (fun h => h.elim h2 h3), if_pos h4]
     clear h1 h4
     go_enter Tryz.func97, Tryz.ntmps97
     obtain ⟨qx1_0, qx1_1, qx1_2, qx1_3, qx1_4, qx1_5, qx1_6, qx1_7, qx1_8, qx1_9, qx1_10, qx1_11, qx1_12, qx1_13, qx1_14⟩ := x1.all
     go_wp2_with fail
     ((with_reducible refine (C1.out.of hG hb).mono ?_); rintro e w2 ⟨rfl, hb2⟩)
     clear qx1_0 qx1_1 qx1_2 qx1_3 qx1_4 qx1_5 qx1_6 qx1_7 qx1_8 qx1_9 qx1_10 qx1_11 qx1_12 qx1_13 qx1_14
     replace x1 := x1.below hb2
     replace hb := bto hb hb2
     clear hb2
     obtain ⟨qx1_0, qx1_1, qx1_2, qx1_3, qx1_4, qx1_5, qx1_6, qx1_7, qx1_8, qx1_9, qx1_10, qx1_11, qx1_12, qx1_13, qx1_14⟩ := x1.all
     go_wp2_with fail
     ((with_reducible refine (C2.out.of hG hb).mono ?_); rintro e w3 ⟨rfl, hb3⟩)
     clear qx1_0 qx1_1 qx1_2 qx1_3 qx1_4 qx1_5 qx1_6 qx1_7 qx1_8 qx1_9 qx1_10 qx1_11 qx1_12 qx1_13 qx1_14
     replace x1 := x1.below hb3
     replace hb := bto hb hb3
     clear hb3
     obtain ⟨qx1_0, qx1_1, qx1_2, qx1_3, qx1_4, qx1_5, qx1_6, qx1_7, qx1_8, qx1_9, qx1_10, qx1_11, qx1_12, qx1_13, qx1_14⟩ := x1.all
     go_wp2
     go_ret
     exact ⟨reti HV.out.symm, hb⟩
 ·have bh1 : nameB x.id = false := not_true_b h1
  have HV : Hid (chkE x = 23) := by show _ = _; unfold chkE; rw [if_pos h1]
  clear h1
  go_enter Tryz.func97, Tryz.ntmps97
  obtain ⟨qx1_0, qx1_1, qx1_2, qx1_3, qx1_4, qx1_5, qx1_6, qx1_7, qx1_8, qx1_9, qx1_10, qx1_11, qx1_12, qx1_13, qx1_14⟩ := x1.all
  go_wp2_with fail
  ((with_reducible refine (C1.out.of hG hb).mono ?_); rintro e w2 ⟨rfl, hb2⟩)
  clear qx1_0 qx1_1 qx1_2 qx1_3 qx1_4 qx1_5 qx1_6 qx1_7 qx1_8 qx1_9 qx1_10 qx1_11 qx1_12 qx1_13 qx1_14
  replace x1 := x1.below hb2
  replace hb := bto hb hb2
  clear hb2
  obtain ⟨qx1_0, qx1_1, qx1_2, qx1_3, qx1_4, qx1_5, qx1_6, qx1_7, qx1_8, qx1_9, qx1_10, qx1_11, qx1_12, qx1_13, qx1_14⟩ := x1.all
  go_wp2
  go_ret
  exact ⟨reti HV.out.symm, hb⟩
end Go.Proofs.YtgnppdkeiihlfaaGreatDoor
namespace Go.Proofs.YtgnppdkeiihlfaaGreatDoor
open Go.RowKit Num
structure IsJ (l l' : List UInt8) (q : Rat) : Prop where
 num : l.length ≤ 900
 den : l'.length ≤ 900
 eq : fv l l' = q
theorem isj_raw {l l' : List UInt8} (h : l.length ≤ 900) (h' : l'.length ≤ 900) : IsJ l l' (fv l l') := ⟨h, h', rfl⟩
theorem isj_p {r : Fp2} {k : Nat} (h : r.1.length ≤ k ∧ r.2.length ≤ k) (hk : k ≤ 900) : IsJ r.1 r.2 (fv r.1 r.2) := ⟨Nat.le_trans h.1 hk, Nat.le_trans h.2 hk, rfl⟩
theorem isj_fr {q : Rat} {k : Nat} (h : Bd k q) (hk : k ≤ 899) : IsJ (fN q) (fD q) q := ⟨Nat.le_trans (bd_len h).1 (by omega), Nat.le_trans (bd_len h).2 (by omega), fv_frac q⟩
section
variable {l l' k k' : List UInt8} {p q r : Rat}
theorem tMul (h : IsJ l l' p) (h' : IsJ k k' q) (e : p * q = r) : Ret 87 #[(Value.agg #[Value.string ⟨List.toArray l⟩, Value.string ⟨List.toArray l'⟩]), (Value.agg #[Value.string ⟨List.toArray k⟩, Value.string ⟨List.toArray k'⟩])] (Value.agg #[Value.string ⟨List.toArray (fN r)⟩, Value.string ⟨List.toArray (fD r)⟩]) := sMul h.num h.den h'.num h'.den (by rw [h.eq, h'.eq]; exact e)
theorem tAdd (h : IsJ l l' p) (h' : IsJ k k' q) (e : p + q = r) : Ret 96 #[(Value.agg #[Value.string ⟨List.toArray l⟩, Value.string ⟨List.toArray l'⟩]), (Value.agg #[Value.string ⟨List.toArray k⟩, Value.string ⟨List.toArray k'⟩])] (Value.agg #[Value.string ⟨List.toArray (fN r)⟩, Value.string ⟨List.toArray (fD r)⟩]) := sAdd h.num h.den h'.num h'.den (by rw [h.eq, h'.eq]; exact e)
theorem tSub {j : Nat} (h : IsJ l l' p) (h' : IsJ k k' q) (b : Bd j q) (hj : j ≤ 899) (e : p - q = r) : Ret 88 #[(Value.agg #[Value.string ⟨List.toArray l⟩, Value.string ⟨List.toArray l'⟩]), (Value.agg #[Value.string ⟨List.toArray k⟩, Value.string ⟨List.toArray k'⟩])] (Value.agg #[Value.string ⟨List.toArray (fN r)⟩, Value.string ⟨List.toArray (fD r)⟩]) := by
 have hb := bd_len (bd_neg b)
 exact sSub h.num h.den h'.num h'.den (by rw [h'.eq]; exact Nat.le_trans hb.1 (by omega)) (by rw [h'.eq]; exact Nat.le_trans hb.2 (by omega)) (by rw [h.eq, h'.eq]; exact e)
theorem tQuo (h : IsJ l l' p) (h' : IsJ k k' q) (h0 : q ≠ 0) (e : p / q = r) : Ret 86 #[(Value.agg #[Value.string ⟨List.toArray l⟩, Value.string ⟨List.toArray l'⟩]), (Value.agg #[Value.string ⟨List.toArray k⟩, Value.string ⟨List.toArray k'⟩])] (.tuple #[(Value.agg #[Value.string ⟨List.toArray (fN r)⟩, Value.string ⟨List.toArray (fD r)⟩]), .int .i64 0]) := sQuo h.num h.den h'.num h'.den (by rw [h'.eq]; exact h0) (by rw [h.eq, h'.eq]; exact e)
theorem tCompare (h : IsJ l l' p) (h' : IsJ k k' q) {c : Int} (e : cmpQ p q = c) : Ret 147 #[(Value.agg #[Value.string ⟨List.toArray l⟩, Value.string ⟨List.toArray l'⟩]), (Value.agg #[Value.string ⟨List.toArray k⟩, Value.string ⟨List.toArray k'⟩])] (.int .i64 c) := sCompare h.num h.den h'.num h'.den (by rw [h.eq, h'.eq]; exact e)
theorem isj_zero : IsJ [] [] 0 := ⟨by decide, by decide, by decide +kernel⟩
end
theorem one_div (z : Int) : Rat.divInt z 1 = (z : Rat) := Rat.num_divInt_den (z : Rat)
theorem tOf {l : List UInt8} (hl : l.length ≤ 3900) {z : Int} (e : val l = z) : Ret 89 #[.string ⟨l.toArray⟩] (Value.agg #[Value.string ⟨List.toArray (fN ((z : Rat)))⟩, Value.string ⟨List.toArray (fD ((z : Rat)))⟩]) := sOf hl (by rw [e]; exact one_div z)
def posB (r : Fp2) : Bool := decide (0 < fv r.1 r.2)
set_option maxHeartbeats 2000000 in
set_option maxRecDepth 100000 in
theorem jCanonL (A : Option Addr) (rs : List Fp2) (n c : Nat) (w : World) (hG : Glob w) (hn : rs.length = n) (hn2 : n ≤ 1000000000) (h : FrAt w A rs) (hl : ∀ r ∈ rs, r.1.length ≤ 900 ∧ r.2.length ≤ 900) :
  Calls Tryz.prog 82 #[.slice A n c] w fun e w' => e = .returned (.bool (rs.all canB)) ∧ Below w.heap.size w w' := by
 have HI := Lib.hid h
 have HS := Lib.hid hl
 have hn1 : rs.length ≤ n := by omega
 have hn3 : n ≤ rs.length := by omega
 clear h hl hn
 go_enter Tryz.func82, Tryz.ntmps82
 go_wp2_with fail
 go_loopw [3] (fun iv wr => ∃ k : Nat, k ≤ n ∧ iv = .int .i64 (k : Int) ∧ Hid (rs.all canB = (rs.drop k).all canB) ∧ Below w.heap.size w wr) (fun iv _ => n - (intOf iv).toNat)
 case atStart => exact ⟨0, Nat.zero_le _, rfl, rfl, Below.refl _ _⟩
 case round =>
  obtain ⟨k, hk, rfl, HK, hb⟩ := hrel
  by_cases hlt : k < n
  ·obtain ⟨x, hx⟩ : ∃ x, rs[k]? = some x := ⟨_, List.getElem?_eq_getElem (by omega)⟩
   obtain ⟨b, o, rfl, hbs, p0, p1⟩ := (HI.out.below hb) k x hx
   have hd : rs.drop k = x :: rs.drop (k + 1) := by
    obtain ⟨hk2, rfl⟩ := List.getElem?_eq_some_iff.1 hx
    exact List.drop_eq_getElem_cons hk2
   have HD := Lib.hid hd
   have hxl := HS.out x (List.mem_of_getElem? hx)
   have c1 := sCheck (l := x.1) (l' := x.2) (q := fv x.1 x.2) (Nat.le_trans hxl.1 (by decide)) (Nat.le_trans hxl.2 (by decide)) rfl (c := if (x.1 = fN (fv x.1 x.2) ∧ x.2 = fD (fv x.1 x.2)) then 0 else 1) rfl
   by_cases g : canB x = true
   ·have g2 := canB_eq g
    rw [if_pos g2] at c1
    have C1 := Lib.hid c1
    have HV : Hid (rs.all canB = (rs.drop (k + 1)).all canB) := by show _ = _; rw [HK.out, HD.out, List.all_cons, g]; rfl
    clear g g2 c1
    clear hd hx hxl
    go_wp2_with fail
    ((with_reducible refine (C1.out.of hG hb).mono ?_); rintro e w2 ⟨rfl, hb2⟩)
    replace hb := bto hb hb2
    clear hb2 C1 p0 p1 HK HD
    go_wp2
    go_roundw
    case rel => exact ⟨k + 1, by omega, by go_num, HV, hb⟩
    case measure => simp [intOf]; omega
   ·rw [if_neg (fun h => g (decide_eq_true h))] at c1
    have C1 := Lib.hid c1
    have HV : Hid (rs.all canB = false) := by show _ = _; rw [HK.out, HD.out, List.all_cons, not_true_b g]; rfl
    clear g c1
    clear hd hx hxl
    go_wp2_with fail
    ((with_reducible refine (C1.out.of hG hb).mono ?_); rintro e w2 ⟨rfl, hb2⟩)
    replace hb := bto hb hb2
    clear hb2 C1 p0 p1 HK HD
    go_wp2
    go_ret
    exact ⟨retb HV.out.symm, hb⟩
  ·have HV : Hid (rs.all canB = true) := by show _ = _; rw [HK.out, List.drop_of_length_le (by omega)]; rfl
   go_wp2
   go_ret
   exact ⟨retb HV.out.symm, hb⟩
set_option maxHeartbeats 2000000 in
set_option maxRecDepth 100000 in
theorem jPosL (A : Option Addr) (rs : List Fp2) (n c : Nat) (w : World) (hG : Glob w) (hn : rs.length = n) (hn2 : n ≤ 1000000000) (h : FrAt w A rs) (hl : ∀ r ∈ rs, r.1.length ≤ 900 ∧ r.2.length ≤ 900) :
  Calls Tryz.prog 84 #[.slice A n c] w fun e w' => e = .returned (.bool (rs.all posB)) ∧ Below w.heap.size w w' := by
 have HI := Lib.hid h
 have HS := Lib.hid hl
 have hn1 : rs.length ≤ n := by omega
 have hn3 : n ≤ rs.length := by omega
 clear h hl hn
 go_enter Tryz.func84, Tryz.ntmps84
 go_wp2_with fail
 go_loopw [3] (fun iv wr => ∃ k : Nat, k ≤ n ∧ iv = .int .i64 (k : Int) ∧ Hid (rs.all posB = (rs.drop k).all posB) ∧ Below w.heap.size w wr) (fun iv _ => n - (intOf iv).toNat)
 case atStart => exact ⟨0, Nat.zero_le _, rfl, rfl, Below.refl _ _⟩
 case round =>
  obtain ⟨k, hk, rfl, HK, hb⟩ := hrel
  by_cases hlt : k < n
  ·obtain ⟨x, hx⟩ : ∃ x, rs[k]? = some x := ⟨_, List.getElem?_eq_getElem (by omega)⟩
   obtain ⟨b, o, rfl, hbs, p0, p1⟩ := (HI.out.below hb) k x hx
   have hd : rs.drop k = x :: rs.drop (k + 1) := by
    obtain ⟨hk2, rfl⟩ := List.getElem?_eq_some_iff.1 hx
    exact List.drop_eq_getElem_cons hk2
   have HD := Lib.hid hd
   have hxl := HS.out x (List.mem_of_getElem? hx)
   obtain ⟨kc, ek⟩ : ∃ c, cmpQ (fv x.1 x.2) 0 = c := ⟨_, rfl⟩
   have C1 := Lib.hid (tCompare (isj_raw hxl.1 hxl.2) isj_zero ek)
   have HE := Lib.hid (cmpQ_sgn ek)
   clear ek
   by_cases g : kc ≤ 0
   ·have e1 : decide (kc ≤ 0) = true := decide_eq_true g
    have HV : Hid (rs.all posB = false) := by show _ = _; rw [HK.out, HD.out, List.all_cons, show posB x = false from decide_eq_false (Rat.not_lt.2 (HE.out.1.1 g))]; rfl
    clear g HE
    clear hd hx hxl
    go_wp2_with fail
    ((with_reducible refine (C1.out.of hG hb).mono ?_); rintro e w2 ⟨rfl, hb2⟩)
    replace hb := bto hb hb2
    clear hb2 C1 p0 p1 HK HD
    go_wp2
    go_ret
    exact ⟨retb HV.out.symm, hb⟩
   ·have e1 : decide (kc ≤ 0) = false := decide_eq_false g
    have HV : Hid (rs.all posB = (rs.drop (k + 1)).all posB) := by show _ = _; rw [HK.out, HD.out, List.all_cons, show posB x = true from decide_eq_true (Rat.not_le.1 (fun h => g (HE.out.1.2 h)))]; rfl
    clear g HE
    clear hd hx hxl
    go_wp2_with fail
    ((with_reducible refine (C1.out.of hG hb).mono ?_); rintro e w2 ⟨rfl, hb2⟩)
    replace hb := bto hb hb2
    clear hb2 C1 p0 p1 HK HD
    go_wp2
    go_roundw
    case rel => exact ⟨k + 1, by omega, by go_num, HV, hb⟩
    case measure => simp [intOf]; omega
  ·have HV : Hid (rs.all posB = true) := by show _ = _; rw [HK.out, List.drop_of_length_le (by omega)]; rfl
   go_wp2
   go_ret
   exact ⟨retb HV.out.symm, hb⟩
set_option maxHeartbeats 1000000 in
set_option maxRecDepth 100000 in
theorem jNegative {l l' : List UInt8} {q : Rat} (h : IsJ l l' q) : Ret 83 #[(Value.agg #[Value.string ⟨List.toArray l⟩, Value.string ⟨List.toArray l'⟩])] (.bool (decide (q < 0))) := fun w hG => by
 obtain ⟨kc, ek⟩ : ∃ c, cmpQ q 0 = c := ⟨_, rfl⟩
 have C1 := Lib.hid (tCompare h isj_zero ek)
 have HV : Hid (decide (kc < 0) = decide (q < 0)) := by show _ = _; rw [decide_eq_decide]; exact (cmpQ_sgn ek).2.1
 have x1 := FBox.new w (.string ⟨l.toArray⟩) (.string ⟨l'.toArray⟩) 25
 have hb := below_alloc w (.cells #[.string ⟨l.toArray⟩, .string ⟨l'.toArray⟩] 25)
 have q0 := x1.c0
 have q1 := x1.c1
 clear h ek
 go_enter Tryz.func83, Tryz.ntmps83
 go_wp2_with fail
 ((with_reducible refine (C1.out.of hG hb).mono ?_); rintro e w2 ⟨rfl, hb2⟩)
 replace hb := bto hb hb2
 clear hb2 C1 x1 q0 q1
 go_wp2
 go_ret
 exact ⟨retb HV.out, hb⟩
set_option maxHeartbeats 2000000 in
set_option maxRecDepth 100000 in
theorem jGrow {l l' m m' : List UInt8} {p q r : Rat} {k : Nat} (h : IsJ l l' p) (h' : IsJ m m' q) (b : Bd k (p * q)) (hk : k ≤ 890) (er : 1 + p * q = r) : Ret 85 #[(Value.agg #[Value.string ⟨List.toArray l⟩, Value.string ⟨List.toArray l'⟩]), (Value.agg #[Value.string ⟨List.toArray m⟩, Value.string ⟨List.toArray m'⟩])] (Value.agg #[Value.string ⟨List.toArray (fN r)⟩, Value.string ⟨List.toArray (fD r)⟩]) := fun w hG => by
 have c1 := tOf (l := [49]) (by decide) (show val [49] = 1 by decide)
 have c2 := tMul h h' rfl
 have c3 := tAdd (isj_fr (q := ((1 : Int) : Rat)) (k := 1) (by constructor <;> decide) (by decide)) (isj_fr b (by omega)) er
 generalize fN (p * q) = M at *
 generalize fD (p * q) = E at *
 generalize fN ((1 : Int) : Rat) = M1 at *
 generalize fD ((1 : Int) : Rat) = E1 at *
 generalize fN r = N at *
 generalize fD r = D at *
 have C1 := Lib.hid c1
 have C2 := Lib.hid c2
 have C3 := Lib.hid c3
 have x2 := FBox.new w (.string ⟨l.toArray⟩) (.string ⟨l'.toArray⟩) 25
 have hb0 := below_alloc w (.cells #[.string ⟨l.toArray⟩, .string ⟨l'.toArray⟩] 25)
 obtain ⟨w1, hw1⟩ : ∃ w1, w1 = w.alloc (.cells #[.string ⟨l.toArray⟩, .string ⟨l'.toArray⟩] 25) := ⟨_, rfl⟩
 have hsz1 : w.heap.size + 1 = w1.heap.size := by rw [hw1]; exact (World.size_alloc _ _).symm
 rw [← hw1] at x2 hb0
 have x3 := FBox.new w1 (.string ⟨m.toArray⟩) (.string ⟨m'.toArray⟩) 25
 have hb1 := below_alloc w1 (.cells #[.string ⟨m.toArray⟩, .string ⟨m'.toArray⟩] 25)
 obtain ⟨w0, hw0⟩ : ∃ w0, w0 = w1.alloc (.cells #[.string ⟨m.toArray⟩, .string ⟨m'.toArray⟩] 25) := ⟨_, rfl⟩
 have hsz2 : w1.heap.size + 1 = w0.heap.size := by rw [hw0]; exact (World.size_alloc _ _).symm
 rw [← hw0] at x3 hb1
 replace x2 := x2.below hb1
 replace hb0 := bto hb0 hb1
 have hb1 := below_alloc w0 (.cells #[.string ⟨#[]⟩, .string ⟨#[]⟩] 25)
 have hbx := heap_alloc_new w0 (.cells #[.string ⟨#[]⟩, .string ⟨#[]⟩] 25)
 have HW1 := Lib.hid hw1
 have HW0 := Lib.hid hw0
 clear c1 c2 c3 er h h' b hw1 hw0
 go_enter Tryz.func85, Tryz.ntmps85
 go_wp2_with fail
 rw [← HW1.out]
 (try rw [hsz1])
 rw [← HW0.out]
 (try rw [hsz2])
 refine wp_region_kept_at 6 w0.heap.size 4 _ (by kernel_rfl) (by kernel_rfl) (by decide) hb1 (Nat.le_refl _) hbx rfl ?_
 simp only [Act.put, List.setIfInBounds_toArray, List.set_cons_zero, List.set_cons_succ]
 clear hbx hsz1 hsz2
 refine kept_call _ _ _ (fun _ => rfl) (fun ρ w hw => by go_simp; first | done | with_reducible rfl) (fun w hw => C1.out.of hG (bto hb0 hw)) ?_
 simp only [Act.put, StT, StZ, StS, Nat.reduceAdd]
 refine kept_val _ (fun _ => rfl) (fun ρ w hw => by have q0 := (x2.below hw).c0; have q1 := (x2.below hw).c1; go_simp; first | done | with_reducible rfl) ?_
 simp only [Act.put, StT, StZ, StS, Nat.reduceAdd]
 refine kept_val _ (fun _ => rfl) (fun ρ w hw => by have q0 := (x3.below hw).c0; have q1 := (x3.below hw).c1; go_simp; first | done | with_reducible rfl) ?_
 simp only [Act.put, StT, StZ, StS, Nat.reduceAdd]
 refine kept_call _ _ _ (fun _ => rfl) (fun ρ w hw => by go_simp; first | done | with_reducible rfl) (fun w hw => C2.out.of hG (bto hb0 hw)) ?_
 simp only [Act.put, StT, StZ, StS, Nat.reduceAdd]
 refine kept_call _ _ _ (fun _ => rfl) (fun ρ w hw => by go_simp; first | done | with_reducible rfl) (fun w hw => C3.out.of hG (bto hb0 hw)) ?_
 simp only [Act.put, StT, StZ, StS, Nat.reduceAdd]
 refine kept_putK 6 _ _ _ _ _ rfl rfl (fun _ => rfl) (fun ρ w hw q0 q1 q2 q3 => by go_simp; first | done | with_reducible rfl) ?_
 simp only [Act.put, Nat.reduceAdd]
 refine kept_end (fun ρ w3 hF => ?_)
 have hb := bto hb0 hF.below
 have x4 := FBox.ofB (hF.box 6 _ _ rfl).2
 generalize ρ 6 = b4 at *
 clear hF
 have d0 := x4.c0
 have d1 := x4.c1
 go_wp2
 refine bodyPost_ret (v := .agg #[.string ⟨N.toArray⟩, .string ⟨D.toArray⟩]) (by simp [results, Tryz.results85, go_sem, d0, d1]) rfl ?_
 exact ⟨rfl, hb⟩
set_option maxHeartbeats 1000000 in
set_option maxRecDepth 100000 in
theorem jRound {q : Rat} {k : Nat} (b : Bd k q) (hk : k ≤ 150) (hk1 : 1 ≤ k) {z : Int} (ez : rnd q 1 = z) : Ret 91 #[(Value.agg #[Value.string ⟨List.toArray (fN q)⟩, Value.string ⟨List.toArray (fD q)⟩])] (.string ⟨(canon z).toArray⟩) := fun w hG => by
 have hl := bd_len b
 have c1 := eRound (l := fN q) (l' := fD q) (by omega) (by omega) (fv_frac q) b hk hk1 (m := 1) (by decide) (by decide) ez
 generalize canon z = Z at *
 generalize fN q = l at *
 generalize fD q = l' at *
 have C1 := Lib.hid c1
 have x1 := FBox.new w (.string ⟨l.toArray⟩) (.string ⟨l'.toArray⟩) 25
 have hb := below_alloc w (.cells #[.string ⟨l.toArray⟩, .string ⟨l'.toArray⟩] 25)
 have q0 := x1.c0
 have q1 := x1.c1
 clear b hk ez c1 hl hk1
 go_enter Tryz.func91, Tryz.ntmps91
 go_wp2_with fail
 ((with_reducible refine (C1.out.of hG hb).mono ?_); rintro e w2 ⟨rfl, hb2⟩)
 replace hb := bto hb hb2
 clear hb2 C1 x1 q0 q1
 go_wp2
 go_ret
 exact ⟨rfl, hb⟩
set_option maxHeartbeats 2000000 in
set_option maxRecDepth 100000 in
theorem jGain (x : Ins) (hx : x.Small) {q : List UInt8} (hq : q.length ≤ 100) (r : Fp2) (hr : r.1.length ≤ 100 ∧ r.2.length ≤ 100) {z : Rat} (er : qZ q * (fv r.1 r.2 - stk x) = z) : Ret 93 #[(Value.agg #[Value.string ⟨List.toArray x.id⟩, Value.int .i64 x.kind, Value.string ⟨List.toArray x.cur⟩, Value.int .i64 x.places, Value.int .i64 x.issued, Value.int .i64 x.matures, Value.string ⟨List.toArray x.fn⟩, Value.string ⟨List.toArray x.fd⟩, Value.string ⟨List.toArray x.cn⟩, Value.string ⟨List.toArray x.cd⟩, Value.int .i64 x.months, Value.int .i64 x.count, Value.string ⟨List.toArray x.other⟩, Value.string ⟨List.toArray x.sn⟩, Value.string ⟨List.toArray x.sd⟩]), .string ⟨q.toArray⟩, (Value.agg #[Value.string ⟨List.toArray (r.1)⟩, Value.string ⟨List.toArray (r.2)⟩])] (Value.agg #[Value.string ⟨List.toArray (fN z)⟩, Value.string ⟨List.toArray (fD z)⟩]) := fun w hG => by
 have bs : Bd 60 (stk x) := bd_of (r := (x.sn, x.sd)) ⟨hx.sn, hx.sd⟩ (by decide)
 have bd := bd_sub (bd_of hr (by decide)) bs
 have C1 := Lib.hid (tOf (l := q) (by omega) rfl)
 have C2 := Lib.hid (tSub (isj_p hr (by decide)) (isj_raw (Nat.le_trans hx.sn (by decide)) (Nat.le_trans hx.sd (by decide))) bs (by decide) (r := fv r.1 r.2 - stk x) rfl)
 have C3 := Lib.hid (tMul (isj_fr (bd_q hq (by decide)) (by decide)) (isj_fr bd (by decide)) er)
 unfold qZ at C3
 generalize ((val q : Int) : Rat) = Z at *
 generalize fv r.1 r.2 - stk x = GN at *
 have x3 := IBox.new w x 27
 have hbA := below_alloc w (.cells #[Value.string ⟨List.toArray x.id⟩, Value.int .i64 x.kind, Value.string ⟨List.toArray x.cur⟩, Value.int .i64 x.places, Value.int .i64 x.issued, Value.int .i64 x.matures, Value.string ⟨List.toArray x.fn⟩, Value.string ⟨List.toArray x.fd⟩, Value.string ⟨List.toArray x.cn⟩, Value.string ⟨List.toArray x.cd⟩, Value.int .i64 x.months, Value.int .i64 x.count, Value.string ⟨List.toArray x.other⟩, Value.string ⟨List.toArray x.sn⟩, Value.string ⟨List.toArray x.sd⟩] 27)
 obtain ⟨w1, hw1⟩ : ∃ w1, w1 = w.alloc (.cells #[Value.string ⟨List.toArray x.id⟩, Value.int .i64 x.kind, Value.string ⟨List.toArray x.cur⟩, Value.int .i64 x.places, Value.int .i64 x.issued, Value.int .i64 x.matures, Value.string ⟨List.toArray x.fn⟩, Value.string ⟨List.toArray x.fd⟩, Value.string ⟨List.toArray x.cn⟩, Value.string ⟨List.toArray x.cd⟩, Value.int .i64 x.months, Value.int .i64 x.count, Value.string ⟨List.toArray x.other⟩, Value.string ⟨List.toArray x.sn⟩, Value.string ⟨List.toArray x.sd⟩] 27) := ⟨_, rfl⟩
 have hsz1 : w.heap.size + 1 = w1.heap.size := by rw [hw1]; exact (World.size_alloc _ _).symm
 rw [← hw1] at x3 hbA
 have x5 := FBox.new w1 (.string ⟨r.1.toArray⟩) (.string ⟨r.2.toArray⟩) 25
 have hbB := below_alloc w1 (.cells #[.string ⟨r.1.toArray⟩, .string ⟨r.2.toArray⟩] 25)
 obtain ⟨w0, hw0⟩ : ∃ w0, w0 = w1.alloc (.cells #[.string ⟨r.1.toArray⟩, .string ⟨r.2.toArray⟩] 25) := ⟨_, rfl⟩
 have hsz2 : w1.heap.size + 1 = w0.heap.size := by rw [hw0]; exact (World.size_alloc _ _).symm
 rw [← hw0] at x5 hbB
 replace x3 := x3.below hbB
 have hb0 := bto hbA hbB
 have hb1 := below_alloc w0 (.cells #[.string ⟨#[]⟩, .string ⟨#[]⟩] 25)
 have hbx := heap_alloc_new w0 (.cells #[.string ⟨#[]⟩, .string ⟨#[]⟩] 25)
 have HW1 := Lib.hid hw1
 have HW0 := Lib.hid hw0
 clear hw1 hw0 er bs bd hq hr hx hbA hbB
 go_enter Tryz.func93, Tryz.ntmps93
 go_wp2_with fail
 rw [← HW1.out]
 (try rw [hsz1])
 rw [← HW0.out]
 (try rw [hsz2])
 refine wp_region_kept_at 20 w0.heap.size 6 _ (by kernel_rfl) (by kernel_rfl) (by decide) hb1 (Nat.le_refl _) hbx rfl ?_
 simp only [Act.put, List.setIfInBounds_toArray, List.set_cons_zero, List.set_cons_succ]
 clear hbx hsz1 hsz2
 refine kept_val _ (fun _ => rfl) (fun ρ w hw => by go_simp; first | done | with_reducible rfl) ?_
 simp only [Act.put, StT, StZ, StS, Nat.reduceAdd]
 refine kept_call _ _ _ (fun _ => rfl) (fun ρ w hw => by go_simp; first | done | with_reducible rfl) (fun w hw => C1.out.of hG (bto hb0 hw)) ?_
 simp only [Act.put, StT, StZ, StS, Nat.reduceAdd]
 refine kept_val _ (fun _ => rfl) (fun ρ w hw => by have q0 := (x5.below hw).c0; have q1 := (x5.below hw).c1; go_simp; first | done | with_reducible rfl) ?_
 simp only [Act.put, StT, StZ, StS, Nat.reduceAdd]
 refine kept_val _ (fun _ => rfl) (fun ρ w hw => by go_simp; first | done | with_reducible rfl) ?_
 simp only [Act.put, StT, StZ, StS, Nat.reduceAdd]
 refine kept_val _ (fun _ => rfl) (fun ρ w hw => by have q13 := (x3.below hw).c13; have q14 := (x3.below hw).c14; go_simp; first | done | with_reducible rfl) ?_
 simp only [Act.put, StT, StZ, StS, Nat.reduceAdd]
 refine kept_call _ _ _ (fun _ => rfl) (fun ρ w hw => by go_simp; first | done | with_reducible rfl) (fun w hw => C2.out.of hG (bto hb0 hw)) ?_
 simp only [Act.put, StT, StZ, StS, Nat.reduceAdd]
 refine kept_call _ _ _ (fun _ => rfl) (fun ρ w hw => by go_simp; first | done | with_reducible rfl) (fun w hw => C3.out.of hG (bto hb0 hw)) ?_
 simp only [Act.put, StT, StZ, StS, Nat.reduceAdd]
 refine kept_putK 20 _ _ _ _ _ rfl rfl (fun _ => rfl) (fun ρ w hw q0 q1 q2 q3 => by go_simp; first | done | with_reducible rfl) ?_
 simp only [Act.put, Nat.reduceAdd]
 refine kept_end (fun ρ w3 hF => ?_)
 have hb := bto hb0 hF.below
 have x6 := FBox.ofB (hF.box 20 _ _ rfl).2
 generalize ρ 20 = b6 at *
 clear hF
 have d0 := x6.c0
 have d1 := x6.c1
 go_wp2
 refine bodyPost_ret (v := (Value.agg #[Value.string ⟨List.toArray (fN z)⟩, Value.string ⟨List.toArray (fD z)⟩])) (by simp [results, Tryz.results93, go_sem, d0, d1]) rfl ?_
 exact ⟨rfl, hb⟩
set_option maxHeartbeats 2000000 in
set_option maxRecDepth 100000 in
theorem jFk (x : Ins) (hx : x.Small) : Ret 36 #[(Value.agg #[Value.string ⟨List.toArray x.id⟩, Value.int .i64 x.kind, Value.string ⟨List.toArray x.cur⟩, Value.int .i64 x.places, Value.int .i64 x.issued, Value.int .i64 x.matures, Value.string ⟨List.toArray x.fn⟩, Value.string ⟨List.toArray x.fd⟩, Value.string ⟨List.toArray x.cn⟩, Value.string ⟨List.toArray x.cd⟩, Value.int .i64 x.months, Value.int .i64 x.count, Value.string ⟨List.toArray x.other⟩, Value.string ⟨List.toArray x.sn⟩, Value.string ⟨List.toArray x.sd⟩])] (.int .i64 (fkE x)) := fun w hG => by
 have C1 := Lib.hid (jCheck x hx)
 have x1 := IBox.new w x 27
 have hb := below_alloc w (.cells #[Value.string ⟨List.toArray x.id⟩, Value.int .i64 x.kind, Value.string ⟨List.toArray x.cur⟩, Value.int .i64 x.places, Value.int .i64 x.issued, Value.int .i64 x.matures, Value.string ⟨List.toArray x.fn⟩, Value.string ⟨List.toArray x.fd⟩, Value.string ⟨List.toArray x.cn⟩, Value.string ⟨List.toArray x.cd⟩, Value.int .i64 x.months, Value.int .i64 x.count, Value.string ⟨List.toArray x.other⟩, Value.string ⟨List.toArray x.sn⟩, Value.string ⟨List.toArray x.sd⟩] 27)
 by_cases g1 : chkE x = 0
 ·have bk : (chkE x != 0) = false := bneq (intbeq g1)
  by_cases g2 : x.kind = 5
  ·have b2 : (x.kind != 5) = false := bneq (intbeq g2)
   have HV : Hid (fkE x = 0) := by show _ = _; unfold fkE; rw [if_neg (fun h => h g1), if_neg (fun h => h g2)]
   clear g1 g2
   go_enter Tryz.func36, Tryz.ntmps36
   have f0 := x1.c0
   have f1 := x1.c1
   have f2 := x1.c2
   have f3 := x1.c3
   have f4 := x1.c4
   have f5 := x1.c5
   have f6 := x1.c6
   have f7 := x1.c7
   have f8 := x1.c8
   have f9 := x1.c9
   have f10 := x1.c10
   have f11 := x1.c11
   have f12 := x1.c12
   have f13 := x1.c13
   have f14 := x1.c14
   go_wp2_with fail
   ((with_reducible refine (C1.out.of hG hb).mono ?_); rintro e w2 ⟨rfl, hb2⟩)
   clear f0 f1 f2 f3 f4 f5 f6 f7 f8 f9 f10 f11 f12 f13 f14
   replace x1 := x1.below hb2
   replace hb := bto hb hb2
   have f0 := x1.c0
   have f1 := x1.c1
   have f2 := x1.c2
   have f3 := x1.c3
   have f4 := x1.c4
   have f5 := x1.c5
   have f6 := x1.c6
   have f7 := x1.c7
   have f8 := x1.c8
   have f9 := x1.c9
   have f10 := x1.c10
   have f11 := x1.c11
   have f12 := x1.c12
   have f13 := x1.c13
   have f14 := x1.c14
   go_wp2
   go_ret
   exact ⟨reti HV.out.symm, hb⟩
  ·have b2 : (x.kind != 5) = true := bneq' (intbne g2)
   have HV : Hid (fkE x = 7) := by show _ = _; unfold fkE; rw [if_neg (fun h => h g1), if_pos g2]
   clear g1 g2
   go_enter Tryz.func36, Tryz.ntmps36
   have f0 := x1.c0
   have f1 := x1.c1
   have f2 := x1.c2
   have f3 := x1.c3
   have f4 := x1.c4
   have f5 := x1.c5
   have f6 := x1.c6
   have f7 := x1.c7
   have f8 := x1.c8
   have f9 := x1.c9
   have f10 := x1.c10
   have f11 := x1.c11
   have f12 := x1.c12
   have f13 := x1.c13
   have f14 := x1.c14
   go_wp2_with fail
   ((with_reducible refine (C1.out.of hG hb).mono ?_); rintro e w2 ⟨rfl, hb2⟩)
   clear f0 f1 f2 f3 f4 f5 f6 f7 f8 f9 f10 f11 f12 f13 f14
   replace x1 := x1.below hb2
   replace hb := bto hb hb2
   have f0 := x1.c0
   have f1 := x1.c1
   have f2 := x1.c2
   have f3 := x1.c3
   have f4 := x1.c4
   have f5 := x1.c5
   have f6 := x1.c6
   have f7 := x1.c7
   have f8 := x1.c8
   have f9 := x1.c9
   have f10 := x1.c10
   have f11 := x1.c11
   have f12 := x1.c12
   have f13 := x1.c13
   have f14 := x1.c14
   go_wp2
   go_ret
   exact ⟨reti HV.out.symm, hb⟩
 ·have bk : (chkE x != 0) = true := bneq' (intbne g1)
  have HV : Hid (fkE x = chkE x) := by show _ = _; unfold fkE; rw [if_pos g1]
  generalize chkE x = E at *
  clear g1
  go_enter Tryz.func36, Tryz.ntmps36
  have f0 := x1.c0
  have f1 := x1.c1
  have f2 := x1.c2
  have f3 := x1.c3
  have f4 := x1.c4
  have f5 := x1.c5
  have f6 := x1.c6
  have f7 := x1.c7
  have f8 := x1.c8
  have f9 := x1.c9
  have f10 := x1.c10
  have f11 := x1.c11
  have f12 := x1.c12
  have f13 := x1.c13
  have f14 := x1.c14
  go_wp2_with fail
  ((with_reducible refine (C1.out.of hG hb).mono ?_); rintro e w2 ⟨rfl, hb2⟩)
  clear f0 f1 f2 f3 f4 f5 f6 f7 f8 f9 f10 f11 f12 f13 f14
  replace x1 := x1.below hb2
  replace hb := bto hb hb2
  have f0 := x1.c0
  have f1 := x1.c1
  have f2 := x1.c2
  have f3 := x1.c3
  have f4 := x1.c4
  have f5 := x1.c5
  have f6 := x1.c6
  have f7 := x1.c7
  have f8 := x1.c8
  have f9 := x1.c9
  have f10 := x1.c10
  have f11 := x1.c11
  have f12 := x1.c12
  have f13 := x1.c13
  have f14 := x1.c14
  go_wp2
  go_ret
  exact ⟨reti HV.out.symm, hb⟩
end Go.Proofs.YtgnppdkeiihlfaaGreatDoor
namespace Go.Proofs.YtgnppdkeiihlfaaGreatDoor
open Go.RowKit Num
theorem le_pos (q : Rat) : decide (q ≤ 0) = !decide (0 < q) := by
 by_cases h : 0 < q
 ·rw [decide_eq_true h, decide_eq_false (Rat.not_le.2 h)]; rfl
 ·rw [decide_eq_false h, decide_eq_true (Rat.not_lt.1 h)]; rfl
end Go.Proofs.YtgnppdkeiihlfaaGreatDoor
