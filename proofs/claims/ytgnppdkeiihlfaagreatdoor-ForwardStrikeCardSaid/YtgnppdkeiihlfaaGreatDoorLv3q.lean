/- The law ForwardStrike. -/
import Derived.Test.YtgnppdkeiihlfaaGreatDoorF7
namespace Go.Proofs.YtgnppdkeiihlfaaGreatDoor
open Go.RowKit Num
theorem sg_one {a b c : Int} (h : cmpZ a b = c) : -1 ≤ c ∧ c ≤ 1 := by
  rcases cmpZ_or a b with ⟨_, e⟩ | ⟨_, e⟩ | ⟨_, e⟩ <;> (rw [e] at h; omega)
theorem sgq_one {a b : Rat} {c : Int} (h : cmpQ a b = c) : -1 ≤ c ∧ c ≤ 1 := sg_one (a := (a - b).num) (b := 0) h
theorem sg_mul {a b : Int} (ha : -1 ≤ a ∧ a ≤ 1) (hb : -1 ≤ b ∧ b ≤ 1) : -1 ≤ a * b ∧ a * b ≤ 1 := by
  have h : a = -1 ∨ a = 0 ∨ a = 1 := by omega
  rcases h with rfl | rfl | rfl <;> omega
set_option maxHeartbeats 8000000 in
set_option maxRecDepth 100000 in
theorem strike_law (x : Ins) (q : List UInt8) (a b : Fp2) (w : World) (hG : Glob w) : Calls Tryz.prog 3 #[(Value.agg #[Value.string ⟨List.toArray x.id⟩, Value.int .i64 x.kind, Value.string ⟨List.toArray x.cur⟩, Value.int .i64 x.places, Value.int .i64 x.issued, Value.int .i64 x.matures, Value.string ⟨List.toArray x.fn⟩, Value.string ⟨List.toArray x.fd⟩, Value.string ⟨List.toArray x.cn⟩, Value.string ⟨List.toArray x.cd⟩, Value.int .i64 x.months, Value.int .i64 x.count, Value.string ⟨List.toArray x.other⟩, Value.string ⟨List.toArray x.sn⟩, Value.string ⟨List.toArray x.sd⟩]), .string ⟨q.toArray⟩, (Value.agg #[Value.string ⟨List.toArray (a.1)⟩, Value.string ⟨List.toArray (a.2)⟩]), (Value.agg #[Value.string ⟨List.toArray (b.1)⟩, Value.string ⟨List.toArray (b.2)⟩])] w fun e w' => e = .returned (.bool true) ∧ Below w.heap.size w w' := by
  have HAw := Lib.hid wAwake12
  go_enter Tryz.func3, Tryz.ntmps3
  have x' := (((IBox.new w x 27).below (below_alloc _ (.cells #[.string ⟨a.1.toArray⟩, .string ⟨a.2.toArray⟩] 25))).below (below_alloc _ (.cells #[.string ⟨b.1.toArray⟩, .string ⟨b.2.toArray⟩] 25)))
  have qx4_0 := x'.c0
  have qx4_1 := x'.c1
  have qx4_2 := x'.c2
  have qx4_3 := x'.c3
  have qx4_4 := x'.c4
  have qx4_5 := x'.c5
  have qx4_6 := x'.c6
  have qx4_7 := x'.c7
  have qx4_8 := x'.c8
  have qx4_9 := x'.c9
  have qx4_10 := x'.c10
  have qx4_11 := x'.c11
  have qx4_12 := x'.c12
  have qx4_13 := x'.c13
  have qx4_14 := x'.c14
  go_wp2_with fail
  refine (lGreat x _ [q] 1 1 _ rfl (by decide) (stsAt_of (by first | (simp; done) | (simp; omega)) (fun i hi => by
    have hi : i = 0 := by simp at hi; omega
    subst hi; simp [go_sem]))).mono ?_
  rintro e w1 ⟨gb, rfl, hg, hb1'⟩
  have hb1 := bto (below_alloc _ _) hb1'
  have x4 := x'.below hb1
  have x6 : FBox w1 (w.heap.size + 1) (.string ⟨a.1.toArray⟩) (.string ⟨a.2.toArray⟩) := FBox.below ⟨by simp [go_sem], by simp [go_sem], by simp [go_sem], by simp [go_sem], by first | (simp; done) | (simp; omega)⟩ hb1
  have x7 : FBox w1 (w.heap.size + 2) (.string ⟨b.1.toArray⟩) (.string ⟨b.2.toArray⟩) := FBox.below ⟨by simp [go_sem], by simp [go_sem], by simp [go_sem], by simp [go_sem], by first | (simp; done) | (simp; omega)⟩ hb1
  have hb : Below w.heap.size w w1 := bto (bto (bto (below_alloc _ _) (below_alloc _ _)) (below_alloc _ _)) hb1
  clear qx4_0 qx4_1 qx4_2 qx4_3 qx4_4 qx4_5 qx4_6 qx4_7 qx4_8 qx4_9 qx4_10 qx4_11 qx4_12 qx4_13 qx4_14
  have HF := Lib.hid hg
  clear hg hb1 hb1' x'
  cases gb with
  | true =>
    clear HF
    go_wp2_with fail
    ((with_reducible refine (HAw.out.of hG hb).mono ?_); rintro e wz ⟨rfl, hbz⟩)
    replace hb := bto hb hbz
    clear hbz
    go_wp2
    go_ret
    exact ⟨rfl, hb⟩
  | false =>
  obtain ⟨hS, hT, hQ⟩ := HF.out rfl
  have lq : q.length ≤ 13 := hQ q (by simp)
  clear hQ HF
  have HS := Lib.hid hS
  have HT := Lib.hid hT
  clear hS hT
  have Lq := Lib.hid lq
  clear lq
  have qx60 := x6.c0
  have qx61 := x6.c1
  have qx70 := x7.c0
  have qx71 := x7.c1
  go_wp2_with fail
  refine (lLong _ [a, b] 2 2 _ rfl (by decide) (frAt_of (by first | (simp; done) | (simp; omega)) (fun i hi => by
    have hi : i = 0 ∨ i = 1 := by simp at hi; omega
    rcases hi with rfl | rfl <;> simp [go_sem]))).mono ?_
  rintro e w2 ⟨rfl, hb2'⟩
  have hb2 := bto (below_alloc _ _) hb2'
  clear qx60 qx61 qx70 qx71 hb2'
  replace x4 := x4.below hb2
  replace x6 := x6.below hb2
  replace x7 := x7.below hb2
  replace hb := bto hb hb2
  clear hb2
  by_cases gL : [a, b].any longF = true
  · rw [gL]
    clear gL
    go_wp2_with fail
    ((with_reducible refine (HAw.out.of hG hb).mono ?_); rintro e wz ⟨rfl, hbz⟩)
    replace hb := bto hb hbz
    clear hbz
    go_wp2
    go_ret
    exact ⟨rfl, hb⟩
  rw [not_true_b gL]
  have hL := not_true_b gL
  clear gL
  simp only [List.any_cons, List.any_nil, Bool.or_false, Bool.or_eq_false_iff] at hL
  have La := Lib.hid (longF_no hL.1)
  have Lb := Lib.hid (longF_no hL.2)
  clear hL
  have CK := Lib.hid (fCheck x HS.out)
  have CI := Lib.hid (riCheck (l := q) (by have := Lq.out; omega) (c := if q = canon (val q) then 0 else 1) rfl)
  by_cases g1 : fkE x = 0
  rotate_left
  · have b1 : (fkE x != 0) = true := bneq' (intbne g1)
    generalize fkE x = E at *
    clear g1
    have qx4_0 := x4.c0
    have qx4_1 := x4.c1
    have qx4_2 := x4.c2
    have qx4_3 := x4.c3
    have qx4_4 := x4.c4
    have qx4_5 := x4.c5
    have qx4_6 := x4.c6
    have qx4_7 := x4.c7
    have qx4_8 := x4.c8
    have qx4_9 := x4.c9
    have qx4_10 := x4.c10
    have qx4_11 := x4.c11
    have qx4_12 := x4.c12
    have qx4_13 := x4.c13
    have qx4_14 := x4.c14
    go_wp2_with fail
    ((with_reducible refine (CK.out.of hG hb).mono ?_); rintro e w3 ⟨rfl, hb3⟩)
    clear qx4_0 qx4_1 qx4_2 qx4_3 qx4_4 qx4_5 qx4_6 qx4_7 qx4_8 qx4_9 qx4_10 qx4_11 qx4_12 qx4_13 qx4_14
    replace x4 := x4.below hb3
    replace x6 := x6.below hb3
    replace x7 := x7.below hb3
    replace hb := bto hb hb3
    clear hb3
    go_wp2_with fail
    ((with_reducible refine (HAw.out.of hG hb).mono ?_); rintro e wz ⟨rfl, hbz⟩)
    replace hb := bto hb hbz
    clear hbz
    go_wp2
    go_ret
    exact ⟨rfl, hb⟩
  have HK := Lib.hid g1
  rw [g1] at CK
  clear g1
  have qx4_0 := x4.c0
  have qx4_1 := x4.c1
  have qx4_2 := x4.c2
  have qx4_3 := x4.c3
  have qx4_4 := x4.c4
  have qx4_5 := x4.c5
  have qx4_6 := x4.c6
  have qx4_7 := x4.c7
  have qx4_8 := x4.c8
  have qx4_9 := x4.c9
  have qx4_10 := x4.c10
  have qx4_11 := x4.c11
  have qx4_12 := x4.c12
  have qx4_13 := x4.c13
  have qx4_14 := x4.c14
  go_wp2_with fail
  ((with_reducible refine (CK.out.of hG hb).mono ?_); rintro e w3 ⟨rfl, hb3⟩)
  clear qx4_0 qx4_1 qx4_2 qx4_3 qx4_4 qx4_5 qx4_6 qx4_7 qx4_8 qx4_9 qx4_10 qx4_11 qx4_12 qx4_13 qx4_14
  replace x4 := x4.below hb3
  replace x6 := x6.below hb3
  replace x7 := x7.below hb3
  replace hb := bto hb hb3
  clear hb3
  by_cases g2 : q = canon (val q)
  rotate_left
  · rw [if_neg g2] at CI
    clear g2
    go_wp2_with fail
    ((with_reducible refine (CI.out.of hG hb).mono ?_); rintro e w4 ⟨rfl, hb4⟩)
    replace x4 := x4.below hb4
    replace x6 := x6.below hb4
    replace x7 := x7.below hb4
    replace hb := bto hb hb4
    clear hb4
    go_wp2_with fail
    ((with_reducible refine (HAw.out.of hG hb).mono ?_); rintro e wz ⟨rfl, hbz⟩)
    replace hb := bto hb hbz
    clear hbz
    go_wp2
    go_ret
    exact ⟨rfl, hb⟩
  rw [if_pos g2] at CI
  have hok : okB x q = true := ok_iff.2 ⟨HK.out, g2⟩
  have HOK := Lib.hid hok
  have CN : Ret 19 #[(Value.agg #[Value.string ⟨List.toArray x.id⟩, Value.int .i64 x.kind, Value.string ⟨List.toArray x.cur⟩, Value.int .i64 x.places, Value.int .i64 x.issued, Value.int .i64 x.matures, Value.string ⟨List.toArray x.fn⟩, Value.string ⟨List.toArray x.fd⟩, Value.string ⟨List.toArray x.cn⟩, Value.string ⟨List.toArray x.cd⟩, Value.int .i64 x.months, Value.int .i64 x.count, Value.string ⟨List.toArray x.other⟩, Value.string ⟨List.toArray x.sn⟩, Value.string ⟨List.toArray x.sd⟩]), .string ⟨q.toArray⟩, (Value.agg #[Value.string ⟨List.toArray (x.sn)⟩, Value.string ⟨List.toArray (x.sd)⟩])] (.tuple #[.string ⟨#[]⟩, .int .i64 0]) := by
    have h := fValue x HS.out q (Nat.le_trans Lq.out (by decide)) (x.sn, x.sd) ⟨Nat.le_trans HS.out.sn (by decide), Nat.le_trans HS.out.sd (by decide)⟩
    rw [strike_none hok] at h; exact h
  have CN := Lib.hid CN
  have CA := fValue x HS.out q (Nat.le_trans Lq.out (by decide)) a ⟨Nat.le_trans La.out.1 (by decide), Nat.le_trans La.out.2 (by decide)⟩
  have CB := fValue x HS.out q (Nat.le_trans Lq.out (by decide)) b ⟨Nat.le_trans Lb.out.1 (by decide), Nat.le_trans Lb.out.2 (by decide)⟩
  have HA := fun h => value_is (x := x) (q := q) (a := a) h
  have HB := fun h => value_is (x := x) (q := q) (a := b) h
  generalize presV x q a ([], []) ([], []) = pa at *
  generalize presV x q b ([], []) ([], []) = pb at *
  obtain ⟨v1, z1⟩ := pa
  obtain ⟨v2, z2⟩ := pb
  have CA := Lib.hid CA
  have CB := Lib.hid CB
  have HA := Lib.hid HA
  have HB := Lib.hid HB
  clear g2 hok HK
  go_wp2_with fail
  ((with_reducible refine (CI.out.of hG hb).mono ?_); rintro e w4 ⟨rfl, hb4⟩)
  replace x4 := x4.below hb4
  replace x6 := x6.below hb4
  replace x7 := x7.below hb4
  replace hb := bto hb hb4
  clear hb4
  have qx4_0 := x4.c0
  have qx4_1 := x4.c1
  have qx4_2 := x4.c2
  have qx4_3 := x4.c3
  have qx4_4 := x4.c4
  have qx4_5 := x4.c5
  have qx4_6 := x4.c6
  have qx4_7 := x4.c7
  have qx4_8 := x4.c8
  have qx4_9 := x4.c9
  have qx4_10 := x4.c10
  have qx4_11 := x4.c11
  have qx4_12 := x4.c12
  have qx4_13 := x4.c13
  have qx4_14 := x4.c14
  go_wp2_with fail
  ((with_reducible refine (CN.out.of hG hb).mono ?_); rintro e w5 ⟨rfl, hb5⟩)
  clear qx4_0 qx4_1 qx4_2 qx4_3 qx4_4 qx4_5 qx4_6 qx4_7 qx4_8 qx4_9 qx4_10 qx4_11 qx4_12 qx4_13 qx4_14
  replace x4 := x4.below hb5
  replace x6 := x6.below hb5
  replace x7 := x7.below hb5
  replace hb := bto hb hb5
  clear hb5
  have qx4_0 := x4.c0
  have qx4_1 := x4.c1
  have qx4_2 := x4.c2
  have qx4_3 := x4.c3
  have qx4_4 := x4.c4
  have qx4_5 := x4.c5
  have qx4_6 := x4.c6
  have qx4_7 := x4.c7
  have qx4_8 := x4.c8
  have qx4_9 := x4.c9
  have qx4_10 := x4.c10
  have qx4_11 := x4.c11
  have qx4_12 := x4.c12
  have qx4_13 := x4.c13
  have qx4_14 := x4.c14
  have qx60 := x6.c0
  have qx61 := x6.c1
  go_wp2_with fail
  ((with_reducible refine (CA.out.of hG hb).mono ?_); rintro e w6 ⟨rfl, hb6⟩)
  clear qx4_0 qx4_1 qx4_2 qx4_3 qx4_4 qx4_5 qx4_6 qx4_7 qx4_8 qx4_9 qx4_10 qx4_11 qx4_12 qx4_13 qx4_14
  clear qx60 qx61
  replace x4 := x4.below hb6
  replace x6 := x6.below hb6
  replace x7 := x7.below hb6
  replace hb := bto hb hb6
  clear hb6
  by_cases gz1 : z1 = 0
  rotate_left
  · have t1 : (z1 != 0) = true := bneq' (intbne gz1)
    clear gz1
    have qx4_0 := x4.c0
    have qx4_1 := x4.c1
    have qx4_2 := x4.c2
    have qx4_3 := x4.c3
    have qx4_4 := x4.c4
    have qx4_5 := x4.c5
    have qx4_6 := x4.c6
    have qx4_7 := x4.c7
    have qx4_8 := x4.c8
    have qx4_9 := x4.c9
    have qx4_10 := x4.c10
    have qx4_11 := x4.c11
    have qx4_12 := x4.c12
    have qx4_13 := x4.c13
    have qx4_14 := x4.c14
    have qx70 := x7.c0
    have qx71 := x7.c1
    go_wp2_with fail
    ((with_reducible refine (CB.out.of hG hb).mono ?_); rintro e w7 ⟨rfl, hb7⟩)
    clear qx4_0 qx4_1 qx4_2 qx4_3 qx4_4 qx4_5 qx4_6 qx4_7 qx4_8 qx4_9 qx4_10 qx4_11 qx4_12 qx4_13 qx4_14
    clear qx70 qx71
    replace x4 := x4.below hb7
    replace x6 := x6.below hb7
    replace x7 := x7.below hb7
    replace hb := bto hb hb7
    clear hb7
    go_wp2_with fail
    ((with_reducible refine (HAw.out.of hG hb).mono ?_); rintro e wz ⟨rfl, hbz⟩)
    replace hb := bto hb hbz
    clear hbz
    go_wp2
    go_ret
    exact ⟨rfl, hb⟩
  by_cases gz2 : z2 = 0
  rotate_left
  · have t1 : (z1 != 0) = false := bneq (intbeq gz1)
    have t2 : (z2 != 0) = true := bneq' (intbne gz2)
    clear gz1 gz2
    have qx4_0 := x4.c0
    have qx4_1 := x4.c1
    have qx4_2 := x4.c2
    have qx4_3 := x4.c3
    have qx4_4 := x4.c4
    have qx4_5 := x4.c5
    have qx4_6 := x4.c6
    have qx4_7 := x4.c7
    have qx4_8 := x4.c8
    have qx4_9 := x4.c9
    have qx4_10 := x4.c10
    have qx4_11 := x4.c11
    have qx4_12 := x4.c12
    have qx4_13 := x4.c13
    have qx4_14 := x4.c14
    have qx70 := x7.c0
    have qx71 := x7.c1
    go_wp2_with fail
    ((with_reducible refine (CB.out.of hG hb).mono ?_); rintro e w7 ⟨rfl, hb7⟩)
    clear qx4_0 qx4_1 qx4_2 qx4_3 qx4_4 qx4_5 qx4_6 qx4_7 qx4_8 qx4_9 qx4_10 qx4_11 qx4_12 qx4_13 qx4_14
    clear qx70 qx71
    replace x4 := x4.below hb7
    replace x6 := x6.below hb7
    replace x7 := x7.below hb7
    replace hb := bto hb hb7
    clear hb7
    go_wp2_with fail
    ((with_reducible refine (HAw.out.of hG hb).mono ?_); rintro e wz ⟨rfl, hbz⟩)
    replace hb := bto hb hbz
    clear hbz
    go_wp2
    go_ret
    exact ⟨rfl, hb⟩
  subst gz1 gz2
  have hv1 := congrArg Prod.fst (HA.out rfl)
  have hv2 := congrArg Prod.fst (HB.out rfl)
  dsimp only at hv1 hv2
  have hm := strike_mono q (fv a.1 a.2) (fv b.1 b.2) (stk x)
  rw [← hv1, ← hv2] at hm
  have hl1 : v1.length ≤ 100 := by
    rw [hv1]
    exact Nat.le_trans (canon_len_le _ 55 (bd_rnd (bd_mul (bd_q Lq.out (by decide)) (bd_sub (bd_of La.out (by decide)) (bd_of (r := (x.sn, x.sd)) HT.out (by decide)))) 1 |> fun h => pow_up h (by decide))) (by decide)
  have hl2 : v2.length ≤ 100 := by
    rw [hv2]
    exact Nat.le_trans (canon_len_le _ 55 (bd_rnd (bd_mul (bd_q Lq.out (by decide)) (bd_sub (bd_of Lb.out (by decide)) (bd_of (r := (x.sn, x.sd)) HT.out (by decide)))) 1 |> fun h => pow_up h (by decide))) (by decide)
  clear hv1 hv2 HA HB
  obtain ⟨c1, d1⟩ : ∃ c, cmpZ (val q) 0 = c := ⟨_, rfl⟩
  obtain ⟨c2, d2⟩ : ∃ c, cmpQ (fv a.1 a.2) (fv b.1 b.2) = c := ⟨_, rfl⟩
  obtain ⟨c3, d3⟩ : ∃ c, cmpZ (val v1) (val v2) = c := ⟨_, rfl⟩
  have K1 := Lib.hid (riCompare (l := q) (l' := []) (by have := Lq.out; omega) (by decide) (c := c1) (by rw [val_nil]; exact d1))
  have K2 := Lib.hid (rCompare (isq_raw La.out.1 La.out.2 (by decide)) (isq_raw Lb.out.1 Lb.out.2 (by decide)) d2)
  have K3 := Lib.hid (riCompare (l := v1) (l' := v2) (by omega) (by omega) d3)
  have s1 := sg_one d1
  have s2 := sgq_one d2
  have s3 := sg_one d3
  rw [d1, d2, d3] at hm
  have w12 := sg_mul s1 s2
  have w123 := sg_mul w12 s3
  have hw1 : IntKind.i64.wrap (c1 * c2) = c1 * c2 := Go.IntWalk.i64_in _ (by omega)
  have hw2 : IntKind.i64.wrap (c1 * c2 * c3) = c1 * c2 * c3 := Go.IntWalk.i64_in _ (by omega)
  have hd : decide (0 ≤ c1 * c2 * c3) = true := decide_eq_true hm
  clear d1 d2 d3 s1 s2 s3 w12 w123 hm hl1 hl2 HS HT Lq La Lb HOK CK CI CN CA
  have qx4_0 := x4.c0
  have qx4_1 := x4.c1
  have qx4_2 := x4.c2
  have qx4_3 := x4.c3
  have qx4_4 := x4.c4
  have qx4_5 := x4.c5
  have qx4_6 := x4.c6
  have qx4_7 := x4.c7
  have qx4_8 := x4.c8
  have qx4_9 := x4.c9
  have qx4_10 := x4.c10
  have qx4_11 := x4.c11
  have qx4_12 := x4.c12
  have qx4_13 := x4.c13
  have qx4_14 := x4.c14
  have qx70 := x7.c0
  have qx71 := x7.c1
  go_wp2_with fail
  ((with_reducible refine (CB.out.of hG hb).mono ?_); rintro e w7 ⟨rfl, hb7⟩)
  clear qx4_0 qx4_1 qx4_2 qx4_3 qx4_4 qx4_5 qx4_6 qx4_7 qx4_8 qx4_9 qx4_10 qx4_11 qx4_12 qx4_13 qx4_14
  clear qx70 qx71
  replace x4 := x4.below hb7
  replace x6 := x6.below hb7
  replace x7 := x7.below hb7
  replace hb := bto hb hb7
  clear hb7
  clear CB
  go_wp2_with fail
  refine wp_region_kept (by kernel_rfl) (by kernel_rfl) ?_
  refine kept_val _ (fun _ => rfl) (fun ρ w hw => by go_simp; first | done | with_reducible rfl) ?_
  simp only [Act.put, List.setIfInBounds_toArray, List.set_cons_zero, List.set_cons_succ, Nat.reduceAdd]
  refine kept_call _ _ _ (fun _ => rfl) (fun ρ w hw => by go_simp; first | done | with_reducible rfl) (fun w hw => K1.out.of hG (bto hb hw)) ?_
  simp only [Act.put, List.setIfInBounds_toArray, List.set_cons_zero, List.set_cons_succ, Nat.reduceAdd]
  refine kept_val _ (fun _ => rfl) (fun ρ w hw => by have q0 := (x6.below hw).c0; have q1 := (x6.below hw).c1; go_simp; first | done | with_reducible rfl) ?_
  simp only [Act.put, List.setIfInBounds_toArray, List.set_cons_zero, List.set_cons_succ, Nat.reduceAdd]
  refine kept_val _ (fun _ => rfl) (fun ρ w hw => by have q0 := (x7.below hw).c0; have q1 := (x7.below hw).c1; go_simp; first | done | with_reducible rfl) ?_
  simp only [Act.put, List.setIfInBounds_toArray, List.set_cons_zero, List.set_cons_succ, Nat.reduceAdd]
  refine kept_call _ _ _ (fun _ => rfl) (fun ρ w hw => by go_simp; first | done | with_reducible rfl) (fun w hw => K2.out.of hG (bto hb hw)) ?_
  simp only [Act.put, List.setIfInBounds_toArray, List.set_cons_zero, List.set_cons_succ, Nat.reduceAdd]
  refine kept_val _ (fun _ => rfl) (fun ρ w hw => by go_simp; first | done | with_reducible rfl) ?_
  simp only [Act.put, List.setIfInBounds_toArray, List.set_cons_zero, List.set_cons_succ, Nat.reduceAdd]
  refine kept_val _ (fun _ => rfl) (fun ρ w hw => by go_simp; first | done | with_reducible rfl) ?_
  simp only [Act.put, List.setIfInBounds_toArray, List.set_cons_zero, List.set_cons_succ, Nat.reduceAdd]
  refine kept_val _ (fun _ => rfl) (fun ρ w hw => by go_simp; first | done | with_reducible rfl) ?_
  simp only [Act.put, List.setIfInBounds_toArray, List.set_cons_zero, List.set_cons_succ, Nat.reduceAdd]
  refine kept_call _ _ _ (fun _ => rfl) (fun ρ w hw => by go_simp; first | done | with_reducible rfl) (fun w hw => K3.out.of hG (bto hb hw)) ?_
  simp only [Act.put, List.setIfInBounds_toArray, List.set_cons_zero, List.set_cons_succ, Nat.reduceAdd]
  refine kept_val _ (fun _ => rfl) (fun ρ w hw => by go_simp; first | done | with_reducible rfl) ?_
  simp only [Act.put, List.setIfInBounds_toArray, List.set_cons_zero, List.set_cons_succ, Nat.reduceAdd]
  refine kept_val _ (fun _ => rfl) (fun ρ w hw => by go_simp; first | done | with_reducible rfl) ?_
  simp only [Act.put, List.setIfInBounds_toArray, List.set_cons_zero, List.set_cons_succ, Nat.reduceAdd]
  refine kept_val _ (fun _ => rfl) (fun ρ w hw => by go_simp; first | done | with_reducible rfl) ?_
  simp only [Act.put, List.setIfInBounds_toArray, List.set_cons_zero, List.set_cons_succ, Nat.reduceAdd]
  refine kept_call _ _ _ (fun _ => rfl) (fun ρ w hw => by go_simp; first | done | with_reducible rfl) (fun w hw => HAw.out.of hG (bto hb hw)) ?_
  simp only [Act.put, List.setIfInBounds_toArray, List.set_cons_zero, List.set_cons_succ, Nat.reduceAdd]
  refine kept_val _ (fun _ => rfl) (fun ρ w hw => by go_simp; first | done | with_reducible rfl) ?_
  simp only [Act.put, List.setIfInBounds_toArray, List.set_cons_zero, List.set_cons_succ, Nat.reduceAdd]
  refine kept_val _ (fun _ => rfl) (fun ρ w hw => by go_simp; first | done | with_reducible rfl) ?_
  simp only [Act.put, List.setIfInBounds_toArray, List.set_cons_zero, List.set_cons_succ, Nat.reduceAdd]
  refine kept_end (fun ρ w9 hF => ?_)
  replace hb := bto hb hF.below
  clear hF
  go_wp2
  go_ret
  exact ⟨rfl, hb⟩
theorem strike_law' (x : Ins) (q a1 a2 b1 b2 : List UInt8) (w : World) (hG : Glob w) : Calls Tryz.prog 3 #[(Value.agg #[Value.string ⟨List.toArray x.id⟩, Value.int .i64 x.kind, Value.string ⟨List.toArray x.cur⟩, Value.int .i64 x.places, Value.int .i64 x.issued, Value.int .i64 x.matures, Value.string ⟨List.toArray x.fn⟩, Value.string ⟨List.toArray x.fd⟩, Value.string ⟨List.toArray x.cn⟩, Value.string ⟨List.toArray x.cd⟩, Value.int .i64 x.months, Value.int .i64 x.count, Value.string ⟨List.toArray x.other⟩, Value.string ⟨List.toArray x.sn⟩, Value.string ⟨List.toArray x.sd⟩]), .string ⟨q.toArray⟩, (Value.agg #[Value.string ⟨List.toArray a1⟩, Value.string ⟨List.toArray a2⟩]), (Value.agg #[Value.string ⟨List.toArray b1⟩, Value.string ⟨List.toArray b2⟩])] w fun e w' => e = .returned (.bool true) ∧ Below w.heap.size w w' := strike_law x q (a1, a2) (b1, b2) w hG
end Go.Proofs.YtgnppdkeiihlfaaGreatDoor
