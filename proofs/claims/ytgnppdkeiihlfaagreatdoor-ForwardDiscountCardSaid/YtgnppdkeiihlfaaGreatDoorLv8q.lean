/- The law ForwardDiscount. -/
import Derived.Test.YtgnppdkeiihlfaaGreatDoorF7
namespace Go.Proofs.YtgnppdkeiihlfaaGreatDoor
open Go.RowKit Num
theorem cmpz_lt {a b c : Int} (h : cmpZ a b = c) : c < 0 ↔ a < b := by
  rcases cmpZ_or a b with ⟨g, e⟩ | ⟨g, e⟩ | ⟨g, e⟩ <;> (rw [e] at h; constructor <;> intro <;> omega)
theorem cmp_ge0 {a b c : Int} (h : cmpZ a b = c) (g : b ≤ a) : 0 ≤ c := by
  rcases cmpZ_or a b with ⟨g, e⟩ | ⟨g, e⟩ | ⟨g, e⟩ <;> (rw [e] at h; omega)
theorem cmp_le0 {a b c : Int} (h : cmpZ a b = c) (g : a ≤ b) : c ≤ 0 := by
  rcases cmpZ_or a b with ⟨g, e⟩ | ⟨g, e⟩ | ⟨g, e⟩ <;> (rw [e] at h; omega)
set_option maxHeartbeats 8000000 in
set_option maxRecDepth 100000 in
theorem discount_law (x : Ins) (q : List UInt8) (r i y : Fp2) (w : World) (hG : Glob w) : Calls Tryz.prog 4 #[(Value.agg #[Value.string ⟨List.toArray x.id⟩, Value.int .i64 x.kind, Value.string ⟨List.toArray x.cur⟩, Value.int .i64 x.places, Value.int .i64 x.issued, Value.int .i64 x.matures, Value.string ⟨List.toArray x.fn⟩, Value.string ⟨List.toArray x.fd⟩, Value.string ⟨List.toArray x.cn⟩, Value.string ⟨List.toArray x.cd⟩, Value.int .i64 x.months, Value.int .i64 x.count, Value.string ⟨List.toArray x.other⟩, Value.string ⟨List.toArray x.sn⟩, Value.string ⟨List.toArray x.sd⟩]), .string ⟨q.toArray⟩, (Value.agg #[Value.string ⟨List.toArray (r.1)⟩, Value.string ⟨List.toArray (r.2)⟩]), (Value.agg #[Value.string ⟨List.toArray (i.1)⟩, Value.string ⟨List.toArray (i.2)⟩]), (Value.agg #[Value.string ⟨List.toArray (y.1)⟩, Value.string ⟨List.toArray (y.2)⟩])] w fun e w' => e = .returned (.bool true) ∧ Below w.heap.size w w' := by
  have HAw := Lib.hid wAwake12
  go_enter Tryz.func4, Tryz.ntmps4
  have x' := ((((IBox.new w x 27).below (below_alloc _ (.cells #[.string ⟨r.1.toArray⟩, .string ⟨r.2.toArray⟩] 25))).below (below_alloc _ (.cells #[.string ⟨i.1.toArray⟩, .string ⟨i.2.toArray⟩] 25))).below (below_alloc _ (.cells #[.string ⟨y.1.toArray⟩, .string ⟨y.2.toArray⟩] 25)))
  have qx5_0 := x'.c0
  have qx5_1 := x'.c1
  have qx5_2 := x'.c2
  have qx5_3 := x'.c3
  have qx5_4 := x'.c4
  have qx5_5 := x'.c5
  have qx5_6 := x'.c6
  have qx5_7 := x'.c7
  have qx5_8 := x'.c8
  have qx5_9 := x'.c9
  have qx5_10 := x'.c10
  have qx5_11 := x'.c11
  have qx5_12 := x'.c12
  have qx5_13 := x'.c13
  have qx5_14 := x'.c14
  go_wp2_with fail
  refine (lGreat x _ [q] 1 1 _ rfl (by decide) (stsAt_of (by first | (simp; done) | (simp; omega)) (fun i hi => by
    have hi : i = 0 := by simp at hi; omega
    subst hi; simp [go_sem]))).mono ?_
  rintro e w1 ⟨gb, rfl, hg, hb1'⟩
  have hb1 := bto (below_alloc _ _) hb1'
  have x5 := x'.below hb1
  have x7 : FBox w1 (w.heap.size + 1) (.string ⟨r.1.toArray⟩) (.string ⟨r.2.toArray⟩) := FBox.below ⟨by simp [go_sem], by simp [go_sem], by simp [go_sem], by simp [go_sem], by first | (simp; done) | (simp; omega)⟩ hb1
  have x8 : FBox w1 (w.heap.size + 2) (.string ⟨i.1.toArray⟩) (.string ⟨i.2.toArray⟩) := FBox.below ⟨by simp [go_sem], by simp [go_sem], by simp [go_sem], by simp [go_sem], by first | (simp; done) | (simp; omega)⟩ hb1
  have x9 : FBox w1 (w.heap.size + 3) (.string ⟨y.1.toArray⟩) (.string ⟨y.2.toArray⟩) := FBox.below ⟨by simp [go_sem], by simp [go_sem], by simp [go_sem], by simp [go_sem], by first | (simp; done) | (simp; omega)⟩ hb1
  have hb : Below w.heap.size w w1 := bto (bto (bto (bto (below_alloc _ _) (below_alloc _ _)) (below_alloc _ _)) (below_alloc _ _)) hb1
  clear qx5_0 qx5_1 qx5_2 qx5_3 qx5_4 qx5_5 qx5_6 qx5_7 qx5_8 qx5_9 qx5_10 qx5_11 qx5_12 qx5_13 qx5_14
  have HF := Lib.hid hg
  clear hg hb1 hb1' x'
  cases gb with
  | true =>
    clear HF
    go_wp2_with fail
    ((with_reducible refine (HAw.out.of hG hb).mono ?_); rintro e wz ⟨rfl, hbz⟩)
    replace hb := bto hb hbz
    clear hbz
    go_wp2
    go_ret
    exact ⟨rfl, hb⟩
  | false =>
  obtain ⟨hS, hT, hQ⟩ := HF.out rfl
  have lq : q.length ≤ 13 := hQ q (by simp)
  clear hQ HF
  have HS := Lib.hid hS
  have HT := Lib.hid hT
  clear hS hT
  have Lq := Lib.hid lq
  clear lq
  have qx70 := x7.c0
  have qx71 := x7.c1
  have qx80 := x8.c0
  have qx81 := x8.c1
  have qx90 := x9.c0
  have qx91 := x9.c1
  go_wp2_with fail
  refine (lLong _ [r, i, y] 3 3 _ rfl (by decide) (frAt_of (by first | (simp; done) | (simp; omega)) (fun i hi => by
    have hi : i = 0 ∨ i = 1 ∨ i = 2 := by simp at hi; omega
    rcases hi with rfl | rfl | rfl <;> simp [go_sem]))).mono ?_
  rintro e w2 ⟨rfl, hb2'⟩
  have hb2 := bto (below_alloc _ _) hb2'
  clear qx70 qx71 qx80 qx81 qx90 qx91 hb2'
  replace x5 := x5.below hb2
  replace x7 := x7.below hb2
  replace x8 := x8.below hb2
  replace x9 := x9.below hb2
  replace hb := bto hb hb2
  clear hb2
  by_cases gL : [r, i, y].any longF = true
  · rw [gL]
    clear gL
    go_wp2_with fail
    ((with_reducible refine (HAw.out.of hG hb).mono ?_); rintro e wz ⟨rfl, hbz⟩)
    replace hb := bto hb hbz
    clear hbz
    go_wp2
    go_ret
    exact ⟨rfl, hb⟩
  rw [not_true_b gL]
  have hL := not_true_b gL
  clear gL
  simp only [List.any_cons, List.any_nil, Bool.or_false, Bool.or_eq_false_iff] at hL
  have Lr := Lib.hid (longF_no hL.1)
  have Li := Lib.hid (longF_no hL.2.1)
  have Ly := Lib.hid (longF_no hL.2.2)
  clear hL
  have hq : q.length ≤ 20 := Nat.le_trans Lq.out (by decide)
  have c1 := fValue x HS.out q (Nat.le_trans Lq.out (by decide)) r ⟨Nat.le_trans Lr.out.1 (by decide), Nat.le_trans Lr.out.2 (by decide)⟩
  have c2 := fPresent x HS.out q (Nat.le_trans Lq.out (by decide)) r i y ⟨Nat.le_trans Lr.out.1 (by decide), Nat.le_trans Lr.out.2 (by decide)⟩ ⟨Nat.le_trans Li.out.1 (by decide), Nat.le_trans Li.out.2 (by decide)⟩ ⟨Nat.le_trans Ly.out.1 (by decide), Nat.le_trans Ly.out.2 (by decide)⟩
  have hv := fun h => value_is (x := x) (q := q) (a := r) h
  have hp := fun h => pres_ok (x := x) (q := q) (r := r) (i := i) (y := y) h
  have hpi := fun h => pres_is (x := x) (q := q) (r := r) (i := i) (y := y) h
  generalize presV x q r ([], []) ([], []) = pv at *
  generalize presV x q r i y = pp at *
  obtain ⟨v1, z1⟩ := pv
  obtain ⟨v2, z2⟩ := pp
  have CV := Lib.hid c1
  have CP := Lib.hid c2
  have HV := Lib.hid hv
  have HP := Lib.hid hp
  have HPI := Lib.hid hpi
  clear c1 c2 hv hp hpi hq
  have qx5_0 := x5.c0
  have qx5_1 := x5.c1
  have qx5_2 := x5.c2
  have qx5_3 := x5.c3
  have qx5_4 := x5.c4
  have qx5_5 := x5.c5
  have qx5_6 := x5.c6
  have qx5_7 := x5.c7
  have qx5_8 := x5.c8
  have qx5_9 := x5.c9
  have qx5_10 := x5.c10
  have qx5_11 := x5.c11
  have qx5_12 := x5.c12
  have qx5_13 := x5.c13
  have qx5_14 := x5.c14
  have qx70 := x7.c0
  have qx71 := x7.c1
  go_wp2_with fail
  ((with_reducible refine (CV.out.of hG hb).mono ?_); rintro e w3 ⟨rfl, hb3⟩)
  clear qx5_0 qx5_1 qx5_2 qx5_3 qx5_4 qx5_5 qx5_6 qx5_7 qx5_8 qx5_9 qx5_10 qx5_11 qx5_12 qx5_13 qx5_14
  clear qx70 qx71
  replace x5 := x5.below hb3
  replace x7 := x7.below hb3
  replace x8 := x8.below hb3
  replace x9 := x9.below hb3
  replace hb := bto hb hb3
  clear hb3
  have qx5_0 := x5.c0
  have qx5_1 := x5.c1
  have qx5_2 := x5.c2
  have qx5_3 := x5.c3
  have qx5_4 := x5.c4
  have qx5_5 := x5.c5
  have qx5_6 := x5.c6
  have qx5_7 := x5.c7
  have qx5_8 := x5.c8
  have qx5_9 := x5.c9
  have qx5_10 := x5.c10
  have qx5_11 := x5.c11
  have qx5_12 := x5.c12
  have qx5_13 := x5.c13
  have qx5_14 := x5.c14
  have qx70 := x7.c0
  have qx71 := x7.c1
  have qx80 := x8.c0
  have qx81 := x8.c1
  have qx90 := x9.c0
  have qx91 := x9.c1
  go_wp2_with fail
  ((with_reducible refine (CP.out.of hG hb).mono ?_); rintro e w4 ⟨rfl, hb4⟩)
  clear qx5_0 qx5_1 qx5_2 qx5_3 qx5_4 qx5_5 qx5_6 qx5_7 qx5_8 qx5_9 qx5_10 qx5_11 qx5_12 qx5_13 qx5_14
  clear qx70 qx71 qx80 qx81 qx90 qx91
  replace x5 := x5.below hb4
  replace x7 := x7.below hb4
  replace x8 := x8.below hb4
  replace x9 := x9.below hb4
  replace hb := bto hb hb4
  clear hb4
  clear CV CP
  by_cases gz1 : z1 = 0
  rotate_left
  · have t1 : (z1 != 0) = true := bneq' (intbne gz1)
    clear gz1 HV HP HPI
    go_wp2_with fail
    ((with_reducible refine (HAw.out.of hG hb).mono ?_); rintro e wz ⟨rfl, hbz⟩)
    replace hb := bto hb hbz
    clear hbz
    go_wp2
    go_ret
    exact ⟨rfl, hb⟩
  have t1 : (z1 != 0) = false := bneq (intbeq gz1)
  by_cases gz2 : z2 = 0
  rotate_left
  · have t2 : (z2 != 0) = true := bneq' (intbne gz2)
    clear gz1 gz2 HV HP HPI
    go_wp2_with fail
    ((with_reducible refine (HAw.out.of hG hb).mono ?_); rintro e wz ⟨rfl, hbz⟩)
    replace hb := bto hb hbz
    clear hbz
    go_wp2
    go_ret
    exact ⟨rfl, hb⟩
  have t2 : (z2 != 0) = false := bneq (intbeq gz2)
  have hpo := HP.out gz2
  have hv1 : v1 = canon (rnd (qZ q * (fv r.1 r.2 - stk x)) 1) := congrArg Prod.fst (HV.out gz1)
  have hv2 : v2 = canon (rnd (qZ q * (fv r.1 r.2 - stk x) / upQ i y) 1) := congrArg Prod.fst (HPI.out hpo)
  have bst : Bd 20 (stk x) := bd_of (r := (x.sn, x.sd)) HT.out (by decide)
  have bg := bd_mul (bd_q (k := 13) Lq.out (by decide)) (bd_sub (bd_of Lr.out (by decide)) bst)
  have bz := bd_div bg (bd_up Li.out Ly.out (by decide) (by decide)) (by decide)
  have hl1 : v1.length ≤ 200 := by rw [hv1]; exact Nat.le_trans (canon_len_le _ _ (bd_rnd bg 1)) (by decide)
  have hl2 : v2.length ≤ 200 := by rw [hv2]; exact Nat.le_trans (canon_len_le _ _ (bd_rnd bz 1)) (by decide)
  have w1v : val v1 = rnd (qZ q * (fv r.1 r.2 - stk x)) 1 := by rw [hv1, val_canon]
  have w2v : val v2 = rnd (qZ q * (fv r.1 r.2 - stk x) / upQ i y) 1 := by rw [hv2, val_canon]
  have CA : Ret 22 #[(Value.agg #[Value.string ⟨List.toArray x.id⟩, Value.int .i64 x.kind, Value.string ⟨List.toArray x.cur⟩, Value.int .i64 x.places, Value.int .i64 x.issued, Value.int .i64 x.matures, Value.string ⟨List.toArray x.fn⟩, Value.string ⟨List.toArray x.fd⟩, Value.string ⟨List.toArray x.cn⟩, Value.string ⟨List.toArray x.cd⟩, Value.int .i64 x.months, Value.int .i64 x.count, Value.string ⟨List.toArray x.other⟩, Value.string ⟨List.toArray x.sn⟩, Value.string ⟨List.toArray x.sd⟩]), .string ⟨q.toArray⟩, (Value.agg #[Value.string ⟨List.toArray (r.1)⟩, Value.string ⟨List.toArray (r.2)⟩]), (Value.agg #[Value.string ⟨List.toArray (i.1)⟩, Value.string ⟨List.toArray (i.2)⟩]), (.agg #[.string ⟨#[]⟩, .string ⟨#[]⟩])] (.tuple #[.string ⟨v1.toArray⟩, .int .i64 0]) := by
    have h := fPresent x HS.out q (Nat.le_trans Lq.out (by decide)) r i zz ⟨Nat.le_trans Lr.out.1 (by decide), Nat.le_trans Lr.out.2 (by decide)⟩ ⟨Nat.le_trans Li.out.1 (by decide), Nat.le_trans Li.out.2 (by decide)⟩ ⟨by decide, by decide⟩
    rw [disc_time hpo, ← hv1] at h; exact h
  have CB : Ret 22 #[(Value.agg #[Value.string ⟨List.toArray x.id⟩, Value.int .i64 x.kind, Value.string ⟨List.toArray x.cur⟩, Value.int .i64 x.places, Value.int .i64 x.issued, Value.int .i64 x.matures, Value.string ⟨List.toArray x.fn⟩, Value.string ⟨List.toArray x.fd⟩, Value.string ⟨List.toArray x.cn⟩, Value.string ⟨List.toArray x.cd⟩, Value.int .i64 x.months, Value.int .i64 x.count, Value.string ⟨List.toArray x.other⟩, Value.string ⟨List.toArray x.sn⟩, Value.string ⟨List.toArray x.sd⟩]), .string ⟨q.toArray⟩, (Value.agg #[Value.string ⟨List.toArray (r.1)⟩, Value.string ⟨List.toArray (r.2)⟩]), (.agg #[.string ⟨#[]⟩, .string ⟨#[]⟩]), (Value.agg #[Value.string ⟨List.toArray (y.1)⟩, Value.string ⟨List.toArray (y.2)⟩])] (.tuple #[.string ⟨v1.toArray⟩, .int .i64 0]) := by
    have h := fPresent x HS.out q (Nat.le_trans Lq.out (by decide)) r zz y ⟨Nat.le_trans Lr.out.1 (by decide), Nat.le_trans Lr.out.2 (by decide)⟩ ⟨by decide, by decide⟩ ⟨Nat.le_trans Ly.out.1 (by decide), Nat.le_trans Ly.out.2 (by decide)⟩
    rw [disc_none hpo, ← hv1] at h; exact h
  obtain ⟨kc, ek⟩ : ∃ c, cmpQ (fv i.1 i.2) 0 = c := ⟨_, rfl⟩
  have CC := Lib.hid (rCompare (isq_raw Li.out.1 Li.out.2 (by decide)) isq_zero ek)
  have hk := cmpQ_sgn ek
  have HN := Lib.hid (fun (h : 0 ≤ fv i.1 i.2) => fw_near (g := qZ q * (fv r.1 r.2 - stk x)) (up_ge h hpo.y0))
  obtain ⟨V1, hV1⟩ : ∃ V, V = rnd (qZ q * (fv r.1 r.2 - stk x)) 1 := ⟨_, rfl⟩
  obtain ⟨P1, hP1⟩ : ∃ V, V = rnd (qZ q * (fv r.1 r.2 - stk x) / upQ i y) 1 := ⟨_, rfl⟩
  rw [← hV1] at w1v HN
  rw [← hP1] at w2v HN
  have CA := Lib.hid CA
  have CB := Lib.hid CB
  clear hV1 hP1 hv1 hv2 bst bg bz hpo gz1 gz2 HV HP HPI ek HS HT Lq Lr Li Ly
  have qx5_0 := x5.c0
  have qx5_1 := x5.c1
  have qx5_2 := x5.c2
  have qx5_3 := x5.c3
  have qx5_4 := x5.c4
  have qx5_5 := x5.c5
  have qx5_6 := x5.c6
  have qx5_7 := x5.c7
  have qx5_8 := x5.c8
  have qx5_9 := x5.c9
  have qx5_10 := x5.c10
  have qx5_11 := x5.c11
  have qx5_12 := x5.c12
  have qx5_13 := x5.c13
  have qx5_14 := x5.c14
  have qx70 := x7.c0
  have qx71 := x7.c1
  have qx80 := x8.c0
  have qx81 := x8.c1
  go_wp2_with fail
  ((with_reducible refine (CA.out.of hG hb).mono ?_); rintro e w5 ⟨rfl, hb5⟩)
  clear qx5_0 qx5_1 qx5_2 qx5_3 qx5_4 qx5_5 qx5_6 qx5_7 qx5_8 qx5_9 qx5_10 qx5_11 qx5_12 qx5_13 qx5_14
  clear qx70 qx71 qx80 qx81
  replace x5 := x5.below hb5
  replace x7 := x7.below hb5
  replace x8 := x8.below hb5
  replace x9 := x9.below hb5
  replace hb := bto hb hb5
  clear hb5
  have qx5_0 := x5.c0
  have qx5_1 := x5.c1
  have qx5_2 := x5.c2
  have qx5_3 := x5.c3
  have qx5_4 := x5.c4
  have qx5_5 := x5.c5
  have qx5_6 := x5.c6
  have qx5_7 := x5.c7
  have qx5_8 := x5.c8
  have qx5_9 := x5.c9
  have qx5_10 := x5.c10
  have qx5_11 := x5.c11
  have qx5_12 := x5.c12
  have qx5_13 := x5.c13
  have qx5_14 := x5.c14
  have qx70 := x7.c0
  have qx71 := x7.c1
  have qx90 := x9.c0
  have qx91 := x9.c1
  go_wp2_with fail
  ((with_reducible refine (CB.out.of hG hb).mono ?_); rintro e w6 ⟨rfl, hb6⟩)
  clear qx5_0 qx5_1 qx5_2 qx5_3 qx5_4 qx5_5 qx5_6 qx5_7 qx5_8 qx5_9 qx5_10 qx5_11 qx5_12 qx5_13 qx5_14
  clear qx70 qx71 qx90 qx91
  replace x5 := x5.below hb6
  replace x7 := x7.below hb6
  replace x8 := x8.below hb6
  replace x9 := x9.below hb6
  replace hb := bto hb hb6
  clear hb6
  clear CA CB x7 x9 x5
  have hin : fv i.1 i.2 < 0 ∨ 0 ≤ fv i.1 i.2 := by
    by_cases h : fv i.1 i.2 < 0
    · exact .inl h
    · exact .inr (Rat.not_lt.1 h)
  rcases hin with gi | gi
  · have t3 : decide (kc < 0) = true := decide_eq_true (hk.2.1.2 gi)
    clear gi hk HN
    have qx80 := x8.c0
    have qx81 := x8.c1
    go_wp2_with fail
    ((with_reducible refine (CC.out.of hG hb).mono ?_); rintro e w7 ⟨rfl, hb7⟩)
    replace hb := bto hb hb7
    clear hb7 qx80 qx81
    go_wp2_with fail
    ((with_reducible refine (HAw.out.of hG hb).mono ?_); rintro e wz ⟨rfl, hbz⟩)
    replace hb := bto hb hbz
    clear hbz
    go_wp2
    go_ret
    exact ⟨rfl, hb⟩
  have t3 : decide (kc < 0) = false := decide_eq_false (fun h => absurd (hk.2.1.1 h) (Rat.not_lt.2 gi))
  obtain ⟨hn1, hn2⟩ := HN.out gi
  have H1 := Lib.hid hn1
  have H2 := Lib.hid hn2
  clear gi hk HN hn1 hn2
  have qx80 := x8.c0
  have qx81 := x8.c1
  go_wp2_with fail
  ((with_reducible refine (CC.out.of hG hb).mono ?_); rintro e w7 ⟨rfl, hb7⟩)
  replace hb := bto hb hb7
  clear hb7 qx80 qx81 x8 CC
  obtain ⟨k1, d1⟩ : ∃ c, cmpZ V1 0 = c := ⟨_, rfl⟩
  have CD := Lib.hid (riCompare (l := v1) (l' := []) (by omega) (by decide) (c := k1) (by rw [val_nil, w1v]; exact d1))
  by_cases gv : V1 < 0
  · have t4 : decide (k1 < 0) = true := decide_eq_true ((cmpz_lt d1).2 gv)
    obtain ⟨a1, a2⟩ := H2.out gv
    obtain ⟨k2, d2⟩ : ∃ c, cmpZ (-P1) 0 = c := ⟨_, rfl⟩
    obtain ⟨k3, d3⟩ : ∃ c, cmpZ (-P1) (-V1) = c := ⟨_, rfl⟩
    have N1 := Lib.hid (riNeg (l := v1) (by omega) (show -val v1 = -V1 by rw [w1v]))
    have N2 := Lib.hid (riNeg (l := v2) (by omega) (show -val v2 = -P1 by rw [w2v]))
    have hb1 := val_lt_of (l := v1) hl1
    have hb2 := val_lt_of (l := v2) hl2
    rw [w1v] at hb1
    rw [w2v] at hb2
    have K2 := Lib.hid (riCompare (l := canon (-P1)) (l' := []) (Nat.le_trans (canon_len_le _ 200 (by rw [Int.natAbs_neg]; exact hb2)) (by decide)) (by decide) (c := k2) (by rw [val_nil, val_canon]; exact d2))
    have K3 := Lib.hid (riCompare (l := canon (-P1)) (l' := canon (-V1)) (Nat.le_trans (canon_len_le _ 200 (by rw [Int.natAbs_neg]; exact hb2)) (by decide)) (Nat.le_trans (canon_len_le _ 200 (by rw [Int.natAbs_neg]; exact hb1)) (by decide)) (c := k3) (by rw [val_canon, val_canon]; exact d3))
    have t5 : decide (0 ≤ k2) = true := decide_eq_true (cmp_ge0 d2 (by omega))
    have t6 : decide (k3 ≤ 0) = true := decide_eq_true (cmp_le0 d3 (by omega))
    generalize canon (-P1) = n2 at *
    generalize canon (-V1) = n1 at *
    clear gv a1 a2 d1 d2 d3 hb1 hb2 H1 H2 w1v w2v hl1 hl2
    go_wp2_with fail
    ((with_reducible refine (CD.out.of hG hb).mono ?_); rintro e w8 ⟨rfl, hb8⟩)
    replace hb := bto hb hb8
    clear hb8 CD
    go_wp2_with fail
    ((with_reducible refine (N1.out.of hG hb).mono ?_); rintro e w9 ⟨rfl, hb9⟩)
    replace hb := bto hb hb9
    clear hb9 N1
    go_wp2_with fail
    ((with_reducible refine (N2.out.of hG hb).mono ?_); rintro e w10 ⟨rfl, hb10⟩)
    replace hb := bto hb hb10
    clear hb10 N2
    go_wp2_with fail
    ((with_reducible refine (K2.out.of hG hb).mono ?_); rintro e w11 ⟨rfl, hb11⟩)
    replace hb := bto hb hb11
    clear hb11 K2
    go_wp2_with fail
    ((with_reducible refine (K3.out.of hG hb).mono ?_); rintro e w12 ⟨rfl, hb12⟩)
    replace hb := bto hb hb12
    clear hb12 K3
    go_wp2_with fail
    ((with_reducible refine (HAw.out.of hG hb).mono ?_); rintro e wz ⟨rfl, hbz⟩)
    replace hb := bto hb hbz
    clear hbz
    go_wp2
    go_ret
    exact ⟨rfl, hb⟩
  · have t4 : decide (k1 < 0) = false := decide_eq_false (fun h => gv ((cmpz_lt d1).1 h))
    obtain ⟨a1, a2⟩ := H1.out (by omega)
    obtain ⟨k2, d2⟩ : ∃ c, cmpZ P1 0 = c := ⟨_, rfl⟩
    obtain ⟨k3, d3⟩ : ∃ c, cmpZ P1 V1 = c := ⟨_, rfl⟩
    have K2 := Lib.hid (riCompare (l := v2) (l' := []) (by omega) (by decide) (c := k2) (by rw [val_nil, w2v]; exact d2))
    have K3 := Lib.hid (riCompare (l := v2) (l' := v1) (by omega) (by omega) (c := k3) (by rw [w1v, w2v]; exact d3))
    have t5 : decide (0 ≤ k2) = true := decide_eq_true (cmp_ge0 d2 a1)
    have t6 : decide (k3 ≤ 0) = true := decide_eq_true (cmp_le0 d3 a2)
    clear gv a1 a2 d1 d2 d3 H1 H2 w1v w2v hl1 hl2
    go_wp2_with fail
    ((with_reducible refine (CD.out.of hG hb).mono ?_); rintro e w8 ⟨rfl, hb8⟩)
    replace hb := bto hb hb8
    clear hb8 CD
    go_wp2_with fail
    ((with_reducible refine (K2.out.of hG hb).mono ?_); rintro e w11 ⟨rfl, hb11⟩)
    replace hb := bto hb hb11
    clear hb11 K2
    go_wp2_with fail
    ((with_reducible refine (K3.out.of hG hb).mono ?_); rintro e w12 ⟨rfl, hb12⟩)
    replace hb := bto hb hb12
    clear hb12 K3
    go_wp2_with fail
    ((with_reducible refine (HAw.out.of hG hb).mono ?_); rintro e wz ⟨rfl, hbz⟩)
    replace hb := bto hb hbz
    clear hbz
    go_wp2
    go_ret
    exact ⟨rfl, hb⟩
theorem discount_law' (x : Ins) (q r1 r2 i1 i2 y1 y2 : List UInt8) (w : World) (hG : Glob w) : Calls Tryz.prog 4 #[(Value.agg #[Value.string ⟨List.toArray x.id⟩, Value.int .i64 x.kind, Value.string ⟨List.toArray x.cur⟩, Value.int .i64 x.places, Value.int .i64 x.issued, Value.int .i64 x.matures, Value.string ⟨List.toArray x.fn⟩, Value.string ⟨List.toArray x.fd⟩, Value.string ⟨List.toArray x.cn⟩, Value.string ⟨List.toArray x.cd⟩, Value.int .i64 x.months, Value.int .i64 x.count, Value.string ⟨List.toArray x.other⟩, Value.string ⟨List.toArray x.sn⟩, Value.string ⟨List.toArray x.sd⟩]), .string ⟨q.toArray⟩, (Value.agg #[Value.string ⟨List.toArray r1⟩, Value.string ⟨List.toArray r2⟩]), (Value.agg #[Value.string ⟨List.toArray i1⟩, Value.string ⟨List.toArray i2⟩]), (Value.agg #[Value.string ⟨List.toArray y1⟩, Value.string ⟨List.toArray y2⟩])] w fun e w' => e = .returned (.bool true) ∧ Below w.heap.size w w' := discount_law x q (r1, r2) (i1, i2) (y1, y2) w hG
end Go.Proofs.YtgnppdkeiihlfaaGreatDoor
