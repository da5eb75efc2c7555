/- The law ForwardSettled. -/
import Derived.Test.YtgnppdkeiihlfaaGreatDoorF7
namespace Go.Proofs.YtgnppdkeiihlfaaGreatDoor
open Go.RowKit Num
set_option maxHeartbeats 8000000 in
set_option maxRecDepth 100000 in
theorem settled_law (x : Ins) (q : List UInt8) (r : Fp2) (w : World) (hG : Glob w) : Calls Tryz.prog 9 #[(Value.agg #[Value.string ⟨List.toArray x.id⟩, Value.int .i64 x.kind, Value.string ⟨List.toArray x.cur⟩, Value.int .i64 x.places, Value.int .i64 x.issued, Value.int .i64 x.matures, Value.string ⟨List.toArray x.fn⟩, Value.string ⟨List.toArray x.fd⟩, Value.string ⟨List.toArray x.cn⟩, Value.string ⟨List.toArray x.cd⟩, Value.int .i64 x.months, Value.int .i64 x.count, Value.string ⟨List.toArray x.other⟩, Value.string ⟨List.toArray x.sn⟩, Value.string ⟨List.toArray x.sd⟩]), .string ⟨q.toArray⟩, (Value.agg #[Value.string ⟨List.toArray (r.1)⟩, Value.string ⟨List.toArray (r.2)⟩])] w fun e w' => e = .returned (.bool true) ∧ Below w.heap.size w w' := by
  have HAw := Lib.hid wAwake12
  go_enter Tryz.func9, Tryz.ntmps9
  have x' := ((IBox.new w x 27).below (below_alloc _ (.cells #[.string ⟨r.1.toArray⟩, .string ⟨r.2.toArray⟩] 25)))
  have qx3_0 := x'.c0
  have qx3_1 := x'.c1
  have qx3_2 := x'.c2
  have qx3_3 := x'.c3
  have qx3_4 := x'.c4
  have qx3_5 := x'.c5
  have qx3_6 := x'.c6
  have qx3_7 := x'.c7
  have qx3_8 := x'.c8
  have qx3_9 := x'.c9
  have qx3_10 := x'.c10
  have qx3_11 := x'.c11
  have qx3_12 := x'.c12
  have qx3_13 := x'.c13
  have qx3_14 := x'.c14
  go_wp2_with fail
  refine (lGreat x _ [q] 1 1 _ rfl (by decide) (stsAt_of (by first | (simp; done) | (simp; omega)) (fun i hi => by
    have hi : i = 0 := by simp at hi; omega
    subst hi; simp [go_sem]))).mono ?_
  rintro e w1 ⟨gb, rfl, hg, hb1'⟩
  have hb1 := bto (below_alloc _ _) hb1'
  have x3 := x'.below hb1
  have x5 : FBox w1 (w.heap.size + 1) (.string ⟨r.1.toArray⟩) (.string ⟨r.2.toArray⟩) := FBox.below ⟨by simp [go_sem], by simp [go_sem], by simp [go_sem], by simp [go_sem], by first | (simp; done) | (simp; omega)⟩ hb1
  have hb : Below w.heap.size w w1 := bto (bto (below_alloc _ _) (below_alloc _ _)) hb1
  clear qx3_0 qx3_1 qx3_2 qx3_3 qx3_4 qx3_5 qx3_6 qx3_7 qx3_8 qx3_9 qx3_10 qx3_11 qx3_12 qx3_13 qx3_14
  have HF := Lib.hid hg
  clear hg hb1 hb1' x'
  cases gb with
  | true =>
    clear HF
    go_wp2_with fail
    ((with_reducible refine (HAw.out.of hG hb).mono ?_); rintro e wz ⟨rfl, hbz⟩)
    replace hb := bto hb hbz
    clear hbz
    go_wp2
    go_ret
    exact ⟨rfl, hb⟩
  | false =>
  obtain ⟨hS, hT, hQ⟩ := HF.out rfl
  have lq : q.length ≤ 13 := hQ q (by simp)
  clear hQ HF
  have HS := Lib.hid hS
  have HT := Lib.hid hT
  clear hS hT
  have Lq := Lib.hid lq
  clear lq
  have qx50 := x5.c0
  have qx51 := x5.c1
  go_wp2_with fail
  refine (lLong _ [r] 1 1 _ rfl (by decide) (frAt_of (by first | (simp; done) | (simp; omega)) (fun i hi => by
    have hi : i = 0 := by simp at hi; omega
    subst hi; simp [go_sem]))).mono ?_
  rintro e w2 ⟨rfl, hb2'⟩
  have hb2 := bto (below_alloc _ _) hb2'
  clear qx50 qx51 hb2'
  replace x3 := x3.below hb2
  replace x5 := x5.below hb2
  replace hb := bto hb hb2
  clear hb2
  by_cases gL : [r].any longF = true
  · rw [gL]
    clear gL
    go_wp2_with fail
    ((with_reducible refine (HAw.out.of hG hb).mono ?_); rintro e wz ⟨rfl, hbz⟩)
    replace hb := bto hb hbz
    clear hbz
    go_wp2
    go_ret
    exact ⟨rfl, hb⟩
  rw [not_true_b gL]
  have hL := not_true_b gL
  clear gL
  simp only [List.any_cons, List.any_nil, Bool.or_false] at hL
  have Lr := Lib.hid (longF_no hL)
  clear hL
  have hq : q.length ≤ 20 := Nat.le_trans Lq.out (by decide)
  have c1 := fValue x HS.out q (Nat.le_trans Lq.out (by decide)) r ⟨Nat.le_trans Lr.out.1 (by decide), Nat.le_trans Lr.out.2 (by decide)⟩
  have c2 := fun (w' : World) (hb : Below w.heap.size w w') => fSettle x HS.out HT.out q hq w' (hG.below hb)
  have hv := fun h => value_is (x := x) (q := q) (a := r) h
  have hs := fun h => setV_ok (x := x) (q := q) h
  generalize presV x q r ([], []) ([], []) = pv at *
  generalize setV x q = sv at *
  obtain ⟨v1, z1⟩ := pv
  obtain ⟨ZL, z2⟩ := sv
  have CV := Lib.hid c1
  have CS := Lib.hid c2
  have HV := Lib.hid hv
  have HSt := Lib.hid hs
  clear c1 c2 hv hs hq
  have qx3_0 := x3.c0
  have qx3_1 := x3.c1
  have qx3_2 := x3.c2
  have qx3_3 := x3.c3
  have qx3_4 := x3.c4
  have qx3_5 := x3.c5
  have qx3_6 := x3.c6
  have qx3_7 := x3.c7
  have qx3_8 := x3.c8
  have qx3_9 := x3.c9
  have qx3_10 := x3.c10
  have qx3_11 := x3.c11
  have qx3_12 := x3.c12
  have qx3_13 := x3.c13
  have qx3_14 := x3.c14
  have qx50 := x5.c0
  have qx51 := x5.c1
  go_wp2_with fail
  ((with_reducible refine (CV.out.of hG hb).mono ?_); rintro e w3 ⟨rfl, hb3⟩)
  clear qx3_0 qx3_1 qx3_2 qx3_3 qx3_4 qx3_5 qx3_6 qx3_7 qx3_8 qx3_9 qx3_10 qx3_11 qx3_12 qx3_13 qx3_14
  clear qx50 qx51
  replace x3 := x3.below hb3
  replace x5 := x5.below hb3
  replace hb := bto hb hb3
  clear hb3
  have qx3_0 := x3.c0
  have qx3_1 := x3.c1
  have qx3_2 := x3.c2
  have qx3_3 := x3.c3
  have qx3_4 := x3.c4
  have qx3_5 := x3.c5
  have qx3_6 := x3.c6
  have qx3_7 := x3.c7
  have qx3_8 := x3.c8
  have qx3_9 := x3.c9
  have qx3_10 := x3.c10
  have qx3_11 := x3.c11
  have qx3_12 := x3.c12
  have qx3_13 := x3.c13
  have qx3_14 := x3.c14
  go_wp2_with fail
  refine (CS.out _ hb).mono ?_
  rintro e w4 ⟨B4, m4, c4, rfl, hm4, hc4, hM4, hb4⟩
  clear qx3_0 qx3_1 qx3_2 qx3_3 qx3_4 qx3_5 qx3_6 qx3_7 qx3_8 qx3_9 qx3_10 qx3_11 qx3_12 qx3_13 qx3_14
  replace x3 := x3.below hb4
  replace x5 := x5.below hb4
  replace hb := bto hb hb4
  clear hb4
  clear CV CS
  by_cases gz1 : z1 = 0
  rotate_left
  · have t1 : (z1 != 0) = true := bneq' (intbne gz1)
    clear gz1 HV HSt hm4 hM4 hc4
    go_wp2_with fail
    ((with_reducible refine (HAw.out.of hG hb).mono ?_); rintro e wz ⟨rfl, hbz⟩)
    replace hb := bto hb hbz
    clear hbz
    go_wp2
    go_ret
    exact ⟨rfl, hb⟩
  have t1 : (z1 != 0) = false := bneq (intbeq gz1)
  by_cases gz2 : z2 = 0
  rotate_left
  · have t2 : (z2 != 0) = true := bneq' (intbne gz2)
    clear gz1 gz2 HV HSt hm4 hM4 hc4
    go_wp2_with fail
    ((with_reducible refine (HAw.out.of hG hb).mono ?_); rintro e wz ⟨rfl, hbz⟩)
    replace hb := bto hb hbz
    clear hbz
    go_wp2
    go_ret
    exact ⟨rfl, hb⟩
  have t2 : (z2 != 0) = false := bneq (intbeq gz2)
  have hv1 : v1 = canon (rnd (qZ q * (fv r.1 r.2 - stk x)) 1) := congrArg Prod.fst (HV.out gz1)
  obtain ⟨hok, hzl⟩ := HSt.out gz2
  have hzl : ZL = setL x q := congrArg Prod.fst hzl
  have hf := fwd_of (ok_iff.1 hok).1
  obtain ⟨hg1, hg2⟩ := set_got hok
  have bg := set_bg2 (x := x) (q := q) hf HT.out (Nat.le_trans Lq.out (by decide))
  subst hzl
  have hML : ML w4 B4 (setL x q) m4 := bg.ml (by decide) (Nat.le_trans bg.len (by decide)) ⟨hm4, hc4, hM4⟩
  have KA : RetB w4 37 #[.slice B4 m4 c4, .string ⟨x.cur.toArray⟩] (.string ⟨q.toArray⟩) := fun w' hb => by
    have h := mAmount B4 (setL x q) m4 c4 x.cur w' (hML.below hb)
    rw [hg1] at h; exact h
  have KB : RetB w4 37 #[.slice B4 m4 c4, .string ⟨x.other.toArray⟩] (.string ⟨(canon (paidZ x q)).toArray⟩) := fun w' hb => by
    have h := mAmount B4 (setL x q) m4 c4 x.other w' (hML.below hb)
    rw [hg2] at h; exact h
  have bq := bd_q (k := 13) Lq.out (by decide)
  have br := bd_of Lr.out (by decide)
  have bst : Bd 20 (stk x) := bd_of (r := (x.sn, x.sd)) HT.out (by decide)
  have bp : Bd 41 ((paidZ x q : Int) : Rat) := bd_int (paid_lt HT.out (Nat.le_trans Lq.out (by decide))) (by decide)
  have hV0 : (rnd (qZ q * (fv r.1 r.2 - stk x)) 1).natAbs < 10 ^ 50 := pow_up (bd_rnd (bd_mul bq (bd_sub br bst)) 1) (by decide)
  have bv : Bd 50 ((rnd (qZ q * (fv r.1 r.2 - stk x)) 1 : Int) : Rat) := bd_int hV0 (by decide)
  have hvl : v1.length ≤ 51 := by rw [hv1]; exact canon_len_le _ 50 hV0
  have bm := bd_mul bq br
  have ba := bd_add bm bp
  have bd0 := bd_sub ba bv
  have hst := fw_settled (val q) (fv r.1 r.2) (stk x)
  have hpz : ((-(rnd (((val q : Int) : Rat) * stk x) 1) : Int) : Rat) = ((paidZ x q : Int) : Rat) := rfl
  have hvz : ((rnd (((val q : Int) : Rat) * (fv r.1 r.2 - stk x)) 1 : Int) : Rat) = ((rnd (qZ q * (fv r.1 r.2 - stk x)) 1 : Int) : Rat) := rfl
  have hqz : ((val q : Int) : Rat) * fv r.1 r.2 = qZ q * fv r.1 r.2 := rfl
  rw [hpz, hvz, hqz] at hst
  have C1 : Ret 40 #[.string ⟨q.toArray⟩] (Value.agg #[Value.string ⟨List.toArray (fN (qZ q))⟩, Value.string ⟨List.toArray (fD (qZ q))⟩]) := rOf (l := q) (by have := Lq.out; omega) rfl
  have C1 := Lib.hid C1
  have C2 := Lib.hid (rMul (isq_fr bq (by decide)) (isq_raw Lr.out.1 Lr.out.2 (by decide)) (r := qZ q * fv r.1 r.2) rfl)
  have C3 := Lib.hid (rOf (l := canon (paidZ x q)) (Nat.le_trans (paid_len HT.out (Nat.le_trans Lq.out (by decide))) (by decide)) (show val (canon (paidZ x q)) = paidZ x q by rw [val_canon]))
  have C4 := Lib.hid (rAdd (isq_fr bm (by decide)) (isq_fr bp (by decide)) (r := qZ q * fv r.1 r.2 + ((paidZ x q : Int) : Rat)) rfl)
  have C5 := Lib.hid (rOf (l := v1) (by omega) (show val v1 = rnd (qZ q * (fv r.1 r.2 - stk x)) 1 by rw [hv1, val_canon]))
  have C6 := Lib.hid (rSub (isq_fr ba (by decide)) (isq_fr bv (by decide)) (r := qZ q * fv r.1 r.2 + ((paidZ x q : Int) : Rat) - ((rnd (qZ q * (fv r.1 r.2 - stk x)) 1 : Int) : Rat)) rfl)
  have C7 := Lib.hid (rOf (l := [49]) (by decide) (show val [49] = 1 by decide))
  have b1 : Bd 1 ((1 : Int) : Rat) := by constructor <;> decide
  obtain ⟨k1, d1⟩ : ∃ c, cmpQ (qZ q * fv r.1 r.2 + ((paidZ x q : Int) : Rat) - ((rnd (qZ q * (fv r.1 r.2 - stk x)) 1 : Int) : Rat)) ((1 : Int) : Rat) = c := ⟨_, rfl⟩
  obtain ⟨k2, d2⟩ : ∃ c, cmpQ (qZ q * fv r.1 r.2 + ((paidZ x q : Int) : Rat) - ((rnd (qZ q * (fv r.1 r.2 - stk x)) 1 : Int) : Rat)) (-((1 : Int) : Rat)) = c := ⟨_, rfl⟩
  have K1 := Lib.hid (rCompare (isq_fr bd0 (by decide)) (isq_fr b1 (by decide)) d1)
  have K2 := Lib.hid (rNeg (isq_fr b1 (by decide)) (r := -((1 : Int) : Rat)) rfl)
  have K3 := Lib.hid (rCompare (isq_fr bd0 (by decide)) (isq_fr (bd_neg b1) (by decide)) d2)
  have t3 : decide (k1 ≤ 0) = true := decide_eq_true ((cmpQ_sgn d1).1.2 hst.1)
  have t4 : decide (0 ≤ k2) = true := decide_eq_true (Int.not_lt.1 (fun h => absurd ((cmpQ_sgn d2).2.1.1 h) (Rat.not_lt.2 hst.2)))
  have KA := Lib.hid KA
  have KB := Lib.hid KB
  clear hpz hvz hqz hst d1 d2 bq br bst bp hV0 bv hvl bm ba bd0 b1 hML hg1 hg2 bg hf hok hv1 hm4 hc4 hM4 gz1 gz2 HV HSt HS HT Lq Lr
  generalize qZ q * fv r.1 r.2 + ((paidZ x q : Int) : Rat) - ((rnd (qZ q * (fv r.1 r.2 - stk x)) 1 : Int) : Rat) = DN at *
  generalize qZ q * fv r.1 r.2 + ((paidZ x q : Int) : Rat) = EN at *
  generalize qZ q * fv r.1 r.2 = MN at *
  generalize ((rnd (qZ q * (fv r.1 r.2 - stk x)) 1 : Int) : Rat) = VN at *
  generalize ((paidZ x q : Int) : Rat) = PN at *
  generalize canon (paidZ x q) = ps at *
  generalize qZ q = QN at *
  generalize -((1 : Int) : Rat) = NN at *
  generalize ((1 : Int) : Rat) = ON at *
  go_wp2_with fail
  refine wp_region_kept (by kernel_rfl) (by kernel_rfl) ?_
  refine kept_val _ (fun _ => rfl) (fun ρ w hw => by go_simp; first | done | with_reducible rfl) ?_
  simp only [Act.put, List.setIfInBounds_toArray, List.set_cons_zero, List.set_cons_succ, Nat.reduceAdd]
  refine kept_val _ (fun _ => rfl) (fun ρ w hw => by go_simp; first | done | with_reducible rfl) ?_
  simp only [Act.put, List.setIfInBounds_toArray, List.set_cons_zero, List.set_cons_succ, Nat.reduceAdd]
  refine kept_val _ (fun _ => rfl) (fun ρ w hw => by have q2 := (x3.below hw).c2; go_simp; first | done | with_reducible rfl) ?_
  simp only [Act.put, List.setIfInBounds_toArray, List.set_cons_zero, List.set_cons_succ, Nat.reduceAdd]
  refine kept_call _ _ _ (fun _ => rfl) (fun ρ w hw => by go_simp; first | done | with_reducible rfl) (fun w hw => KA.out.of (hG.below hb) hw) ?_
  simp only [Act.put, List.setIfInBounds_toArray, List.set_cons_zero, List.set_cons_succ, Nat.reduceAdd]
  refine kept_val _ (fun _ => rfl) (fun ρ w hw => by go_simp; first | done | with_reducible rfl) ?_
  simp only [Act.put, List.setIfInBounds_toArray, List.set_cons_zero, List.set_cons_succ, Nat.reduceAdd]
  refine kept_val _ (fun _ => rfl) (fun ρ w hw => by go_simp; first | done | with_reducible rfl) ?_
  simp only [Act.put, List.setIfInBounds_toArray, List.set_cons_zero, List.set_cons_succ, Nat.reduceAdd]
  refine kept_val _ (fun _ => rfl) (fun ρ w hw => by have q12 := (x3.below hw).c12; go_simp; first | done | with_reducible rfl) ?_
  simp only [Act.put, List.setIfInBounds_toArray, List.set_cons_zero, List.set_cons_succ, Nat.reduceAdd]
  refine kept_call _ _ _ (fun _ => rfl) (fun ρ w hw => by go_simp; first | done | with_reducible rfl) (fun w hw => KB.out.of (hG.below hb) hw) ?_
  simp only [Act.put, List.setIfInBounds_toArray, List.set_cons_zero, List.set_cons_succ, Nat.reduceAdd]
  refine kept_val _ (fun _ => rfl) (fun ρ w hw => by go_simp; first | done | with_reducible rfl) ?_
  simp only [Act.put, List.setIfInBounds_toArray, List.set_cons_zero, List.set_cons_succ, Nat.reduceAdd]
  refine kept_val _ (fun _ => rfl) (fun ρ w hw => by go_simp; first | done | with_reducible rfl) ?_
  simp only [Act.put, List.setIfInBounds_toArray, List.set_cons_zero, List.set_cons_succ, Nat.reduceAdd]
  refine kept_end (fun ρ w7 hF => ?_)
  replace x5 := x5.below hF.below
  replace hb := bto hb hF.below
  clear hF KA KB x3
  go_wp2_with fail
  refine wp_region_kept (by kernel_rfl) (by kernel_rfl) ?_
  refine kept_val _ (fun _ => rfl) (fun ρ w hw => by go_simp; first | done | with_reducible rfl) ?_
  simp only [Act.put, List.setIfInBounds_toArray, List.set_cons_zero, List.set_cons_succ, Nat.reduceAdd]
  refine kept_call _ _ _ (fun _ => rfl) (fun ρ w hw => by go_simp; first | done | with_reducible rfl) (fun w hw => C1.out.of hG (bto hb hw)) ?_
  simp only [Act.put, List.setIfInBounds_toArray, List.set_cons_zero, List.set_cons_succ, Nat.reduceAdd]
  refine kept_val _ (fun _ => rfl) (fun ρ w hw => by have q0 := (x5.below hw).c0; have q1 := (x5.below hw).c1; go_simp; first | done | with_reducible rfl) ?_
  simp only [Act.put, List.setIfInBounds_toArray, List.set_cons_zero, List.set_cons_succ, Nat.reduceAdd]
  refine kept_call _ _ _ (fun _ => rfl) (fun ρ w hw => by go_simp; first | done | with_reducible rfl) (fun w hw => C2.out.of hG (bto hb hw)) ?_
  simp only [Act.put, List.setIfInBounds_toArray, List.set_cons_zero, List.set_cons_succ, Nat.reduceAdd]
  refine kept_val _ (fun _ => rfl) (fun ρ w hw => by go_simp; first | done | with_reducible rfl) ?_
  simp only [Act.put, List.setIfInBounds_toArray, List.set_cons_zero, List.set_cons_succ, Nat.reduceAdd]
  refine kept_call _ _ _ (fun _ => rfl) (fun ρ w hw => by go_simp; first | done | with_reducible rfl) (fun w hw => C3.out.of hG (bto hb hw)) ?_
  simp only [Act.put, List.setIfInBounds_toArray, List.set_cons_zero, List.set_cons_succ, Nat.reduceAdd]
  refine kept_call _ _ _ (fun _ => rfl) (fun ρ w hw => by go_simp; first | done | with_reducible rfl) (fun w hw => C4.out.of hG (bto hb hw)) ?_
  simp only [Act.put, List.setIfInBounds_toArray, List.set_cons_zero, List.set_cons_succ, Nat.reduceAdd]
  refine kept_box (fun b => .pointer (some ⟨b, 0, none⟩)) _ rfl (fun _ => rfl) (fun ρ w hw => by go_simp; first | done | with_reducible rfl) ?_
  simp only [Act.put, List.setIfInBounds_toArray, List.set_cons_zero, List.set_cons_succ, Nat.reduceAdd]
  refine kept_put2 7 _ 13 _ _ _ _ _ rfl rfl rfl (by decide) (fun _ => rfl) (fun ρ w hw q0 q1 q2 q3 => by go_simp; first | done | with_reducible rfl) ?_
  simp only [Act.put, Nat.reduceAdd]
  refine kept_end (fun ρ w81 hF => ?_)
  replace x5 := x5.below hF.below
  replace hb := bto hb hF.below
  have x13 := FBox.ofB (hF.box 7 _ _ rfl).2
  generalize ρ 7 = b13 at *
  clear hF
  go_wp2_with fail
  refine wp_region_kept (by kernel_rfl) (by kernel_rfl) ?_
  refine kept_val _ (fun _ => rfl) (fun ρ w hw => by have q0 := (x13.below hw).c0; have q1 := (x13.below hw).c1; go_simp; first | done | with_reducible rfl) ?_
  simp only [Act.put, List.setIfInBounds_toArray, List.set_cons_zero, List.set_cons_succ, Nat.reduceAdd]
  refine kept_val _ (fun _ => rfl) (fun ρ w hw => by go_simp; first | done | with_reducible rfl) ?_
  simp only [Act.put, List.setIfInBounds_toArray, List.set_cons_zero, List.set_cons_succ, Nat.reduceAdd]
  refine kept_call _ _ _ (fun _ => rfl) (fun ρ w hw => by go_simp; first | done | with_reducible rfl) (fun w hw => C5.out.of hG (bto hb hw)) ?_
  simp only [Act.put, List.setIfInBounds_toArray, List.set_cons_zero, List.set_cons_succ, Nat.reduceAdd]
  refine kept_call _ _ _ (fun _ => rfl) (fun ρ w hw => by go_simp; first | done | with_reducible rfl) (fun w hw => C6.out.of hG (bto hb hw)) ?_
  simp only [Act.put, List.setIfInBounds_toArray, List.set_cons_zero, List.set_cons_succ, Nat.reduceAdd]
  refine kept_box (fun b => .pointer (some ⟨b, 0, none⟩)) _ rfl (fun _ => rfl) (fun ρ w hw => by go_simp; first | done | with_reducible rfl) ?_
  simp only [Act.put, List.setIfInBounds_toArray, List.set_cons_zero, List.set_cons_succ, Nat.reduceAdd]
  refine kept_put2 4 _ 14 _ _ _ _ _ rfl rfl rfl (by decide) (fun _ => rfl) (fun ρ w hw q0 q1 q2 q3 => by go_simp; first | done | with_reducible rfl) ?_
  simp only [Act.put, Nat.reduceAdd]
  refine kept_end (fun ρ w91 hF => ?_)
  replace x13 := x13.below hF.below
  replace hb := bto hb hF.below
  have x14 := FBox.ofB (hF.box 4 _ _ rfl).2
  generalize ρ 4 = b14 at *
  clear hF
  clear x13 x5 C1 C2 C3 C4 C5 C6
  generalize fN ON = o1 at *
  generalize fD ON = o2 at *
  go_wp2_with fail
  ((with_reducible refine (C7.out.of hG hb).mono ?_); rintro e w92 ⟨rfl, hb92⟩)
  have hbA := below_alloc w92 (.cells #[.string ⟨o1.toArray⟩, .string ⟨o2.toArray⟩] 25)
  have x15 := FBox.new w92 (.string ⟨o1.toArray⟩) (.string ⟨o2.toArray⟩) 25
  have hbC := bto hb92 hbA
  replace x14 := x14.below hbC
  replace hb := bto hb hbC
  obtain ⟨w93, hw93⟩ : ∃ w93, w93 = w92.alloc (.cells #[.string ⟨o1.toArray⟩, .string ⟨o2.toArray⟩] 25) := ⟨_, rfl⟩
  rw [← hw93] at x14 x15 hb
  clear hb92 hbA hbC C7
  go_wp2_with fail
  rw [← hw93]
  clear hw93
  refine wp_region_kept (by kernel_rfl) (by kernel_rfl) ?_
  refine kept_val _ (fun _ => rfl) (fun ρ w hw => by go_simp; first | done | with_reducible rfl) ?_
  simp only [Act.put, List.setIfInBounds_toArray, List.set_cons_zero, List.set_cons_succ, Nat.reduceAdd]
  refine kept_val _ (fun _ => rfl) (fun ρ w hw => by go_simp; first | done | with_reducible rfl) ?_
  simp only [Act.put, List.setIfInBounds_toArray, List.set_cons_zero, List.set_cons_succ, Nat.reduceAdd]
  refine kept_val _ (fun _ => rfl) (fun ρ w hw => by go_simp; first | done | with_reducible rfl) ?_
  simp only [Act.put, List.setIfInBounds_toArray, List.set_cons_zero, List.set_cons_succ, Nat.reduceAdd]
  refine kept_val _ (fun _ => rfl) (fun ρ w hw => by go_simp; first | done | with_reducible rfl) ?_
  simp only [Act.put, List.setIfInBounds_toArray, List.set_cons_zero, List.set_cons_succ, Nat.reduceAdd]
  refine kept_val _ (fun _ => rfl) (fun ρ w hw => by have q0 := (x14.below hw).c0; have q1 := (x14.below hw).c1; go_simp; first | done | with_reducible rfl) ?_
  simp only [Act.put, List.setIfInBounds_toArray, List.set_cons_zero, List.set_cons_succ, Nat.reduceAdd]
  refine kept_val _ (fun _ => rfl) (fun ρ w hw => by have q0 := (x15.below hw).c0; have q1 := (x15.below hw).c1; go_simp; first | done | with_reducible rfl) ?_
  simp only [Act.put, List.setIfInBounds_toArray, List.set_cons_zero, List.set_cons_succ, Nat.reduceAdd]
  refine kept_call _ _ _ (fun _ => rfl) (fun ρ w hw => by go_simp; first | done | with_reducible rfl) (fun w hw => K1.out.of hG (bto hb hw)) ?_
  simp only [Act.put, List.setIfInBounds_toArray, List.set_cons_zero, List.set_cons_succ, Nat.reduceAdd]
  refine kept_val _ (fun _ => rfl) (fun ρ w hw => by go_simp; first | done | with_reducible rfl) ?_
  simp only [Act.put, List.setIfInBounds_toArray, List.set_cons_zero, List.set_cons_succ, Nat.reduceAdd]
  refine kept_val _ (fun _ => rfl) (fun ρ w hw => by go_simp; first | done | with_reducible rfl) ?_
  simp only [Act.put, List.setIfInBounds_toArray, List.set_cons_zero, List.set_cons_succ, Nat.reduceAdd]
  refine kept_val _ (fun _ => rfl) (fun ρ w hw => by go_simp; first | done | with_reducible rfl) ?_
  simp only [Act.put, List.setIfInBounds_toArray, List.set_cons_zero, List.set_cons_succ, Nat.reduceAdd]
  refine kept_val _ (fun _ => rfl) (fun ρ w hw => by have q0 := (x14.below hw).c0; have q1 := (x14.below hw).c1; go_simp; first | done | with_reducible rfl) ?_
  simp only [Act.put, List.setIfInBounds_toArray, List.set_cons_zero, List.set_cons_succ, Nat.reduceAdd]
  refine kept_val _ (fun _ => rfl) (fun ρ w hw => by have q0 := (x15.below hw).c0; have q1 := (x15.below hw).c1; go_simp; first | done | with_reducible rfl) ?_
  simp only [Act.put, List.setIfInBounds_toArray, List.set_cons_zero, List.set_cons_succ, Nat.reduceAdd]
  refine kept_call _ _ _ (fun _ => rfl) (fun ρ w hw => by go_simp; first | done | with_reducible rfl) (fun w hw => K2.out.of hG (bto hb hw)) ?_
  simp only [Act.put, List.setIfInBounds_toArray, List.set_cons_zero, List.set_cons_succ, Nat.reduceAdd]
  refine kept_call _ _ _ (fun _ => rfl) (fun ρ w hw => by go_simp; first | done | with_reducible rfl) (fun w hw => K3.out.of hG (bto hb hw)) ?_
  simp only [Act.put, List.setIfInBounds_toArray, List.set_cons_zero, List.set_cons_succ, Nat.reduceAdd]
  refine kept_val _ (fun _ => rfl) (fun ρ w hw => by go_simp; first | done | with_reducible rfl) ?_
  simp only [Act.put, List.setIfInBounds_toArray, List.set_cons_zero, List.set_cons_succ, Nat.reduceAdd]
  refine kept_val _ (fun _ => rfl) (fun ρ w hw => by go_simp; first | done | with_reducible rfl) ?_
  simp only [Act.put, List.setIfInBounds_toArray, List.set_cons_zero, List.set_cons_succ, Nat.reduceAdd]
  refine kept_val _ (fun _ => rfl) (fun ρ w hw => by go_simp; first | done | with_reducible rfl) ?_
  simp only [Act.put, List.setIfInBounds_toArray, List.set_cons_zero, List.set_cons_succ, Nat.reduceAdd]
  refine kept_call _ _ _ (fun _ => rfl) (fun ρ w hw => by go_simp; first | done | with_reducible rfl) (fun w hw => HAw.out.of hG (bto hb hw)) ?_
  simp only [Act.put, List.setIfInBounds_toArray, List.set_cons_zero, List.set_cons_succ, Nat.reduceAdd]
  refine kept_val _ (fun _ => rfl) (fun ρ w hw => by go_simp; first | done | with_reducible rfl) ?_
  simp only [Act.put, List.setIfInBounds_toArray, List.set_cons_zero, List.set_cons_succ, Nat.reduceAdd]
  refine kept_val _ (fun _ => rfl) (fun ρ w hw => by go_simp; first | done | with_reducible rfl) ?_
  simp only [Act.put, List.setIfInBounds_toArray, List.set_cons_zero, List.set_cons_succ, Nat.reduceAdd]
  refine kept_end (fun ρ w99 hF => ?_)
  replace hb := bto hb hF.below
  clear hF
  go_wp2
  go_ret
  exact ⟨rfl, hb⟩
theorem settled_law' (x : Ins) (q r1 r2 : List UInt8) (w : World) (hG : Glob w) : Calls Tryz.prog 9 #[(Value.agg #[Value.string ⟨List.toArray x.id⟩, Value.int .i64 x.kind, Value.string ⟨List.toArray x.cur⟩, Value.int .i64 x.places, Value.int .i64 x.issued, Value.int .i64 x.matures, Value.string ⟨List.toArray x.fn⟩, Value.string ⟨List.toArray x.fd⟩, Value.string ⟨List.toArray x.cn⟩, Value.string ⟨List.toArray x.cd⟩, Value.int .i64 x.months, Value.int .i64 x.count, Value.string ⟨List.toArray x.other⟩, Value.string ⟨List.toArray x.sn⟩, Value.string ⟨List.toArray x.sd⟩]), .string ⟨q.toArray⟩, (Value.agg #[Value.string ⟨List.toArray r1⟩, Value.string ⟨List.toArray r2⟩])] w fun e w' => e = .returned (.bool true) ∧ Below w.heap.size w w' := settled_law x q (r1, r2) w hG
end Go.Proofs.YtgnppdkeiihlfaaGreatDoor
