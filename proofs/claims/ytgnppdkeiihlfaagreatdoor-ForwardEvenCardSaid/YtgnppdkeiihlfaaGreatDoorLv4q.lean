/- The law ForwardEven. -/
import Derived.Test.YtgnppdkeiihlfaaGreatDoorF7
namespace Go.Proofs.YtgnppdkeiihlfaaGreatDoor
open Go.RowKit Num
set_option maxHeartbeats 8000000 in
set_option maxRecDepth 100000 in
theorem even_law (x : Ins) (q v : List UInt8) (w : World) (hG : Glob w) : Calls Tryz.prog 10 #[(Value.agg #[Value.string ⟨List.toArray x.id⟩, Value.int .i64 x.kind, Value.string ⟨List.toArray x.cur⟩, Value.int .i64 x.places, Value.int .i64 x.issued, Value.int .i64 x.matures, Value.string ⟨List.toArray x.fn⟩, Value.string ⟨List.toArray x.fd⟩, Value.string ⟨List.toArray x.cn⟩, Value.string ⟨List.toArray x.cd⟩, Value.int .i64 x.months, Value.int .i64 x.count, Value.string ⟨List.toArray x.other⟩, Value.string ⟨List.toArray x.sn⟩, Value.string ⟨List.toArray x.sd⟩]), .string ⟨q.toArray⟩, .string ⟨v.toArray⟩] w fun e w' => e = .returned (.bool true) ∧ Below w.heap.size w w' := by
  have HAw := Lib.hid wAwake12
  go_enter Tryz.func10, Tryz.ntmps10
  have x' := (IBox.new w x 27)
  have qx3_0 := x'.c0
  have qx3_1 := x'.c1
  have qx3_2 := x'.c2
  have qx3_3 := x'.c3
  have qx3_4 := x'.c4
  have qx3_5 := x'.c5
  have qx3_6 := x'.c6
  have qx3_7 := x'.c7
  have qx3_8 := x'.c8
  have qx3_9 := x'.c9
  have qx3_10 := x'.c10
  have qx3_11 := x'.c11
  have qx3_12 := x'.c12
  have qx3_13 := x'.c13
  have qx3_14 := x'.c14
  go_wp2_with fail
  refine (lGreat x _ [q, v] 2 2 _ rfl (by decide) (stsAt_of (by first | (simp; done) | (simp; omega)) (fun i hi => by
    have hi : i = 0 ∨ i = 1 := by simp at hi; omega
    rcases hi with rfl | rfl <;> simp [go_sem]))).mono ?_
  rintro e w1 ⟨b, rfl, hg, hb1'⟩
  have hb1 := bto (below_alloc _ _) hb1'
  have x3 := x'.below hb1
  have hb : Below w.heap.size w w1 := bto (below_alloc _ _) hb1
  clear qx3_0 qx3_1 qx3_2 qx3_3 qx3_4 qx3_5 qx3_6 qx3_7 qx3_8 qx3_9 qx3_10 qx3_11 qx3_12 qx3_13 qx3_14
  have HF := Lib.hid hg
  clear hg hb1 hb1' x'
  cases b with
  | true =>
    clear HF
    go_wp2_with fail
    ((with_reducible refine (HAw.out.of hG hb).mono ?_); rintro e wz ⟨rfl, hbz⟩)
    replace hb := bto hb hbz
    clear hbz
    go_wp2
    go_ret
    exact ⟨rfl, hb⟩
  | false =>
  obtain ⟨hS, hT, hQ⟩ := HF.out rfl
  have lq : q.length ≤ 13 := hQ q (by simp)
  have lv : v.length ≤ 13 := hQ v (by simp)
  clear hQ HF
  have HS := Lib.hid hS
  have HT := Lib.hid hT
  clear hS hT
  have Lq := Lib.hid lq
  clear lq
  have Lv := Lib.hid lv
  clear lv
  have c1 := fEven x HS.out q v (Nat.le_trans Lq.out (by decide)) (Nat.le_trans Lv.out (by decide))
  by_cases gz : (evenV x q v).2 = 0
  rotate_left
  · have hq := even_bad gz
    rw [hq, fn0.1, fn0.2] at c1
    have tz : ((evenV x q v).2 != 0) = true := bneq' (intbne gz)
    generalize (evenV x q v).2 = z at *
    have C1 := Lib.hid c1
    have hE := fun (w : World) => eqP1 [] [] [] [] w
    simp only [sameP_self] at hE
    have hEG := guardP
    clear c1 gz hq HS HT Lq Lv
    have qx3_0 := x3.c0
    have qx3_1 := x3.c1
    have qx3_2 := x3.c2
    have qx3_3 := x3.c3
    have qx3_4 := x3.c4
    have qx3_5 := x3.c5
    have qx3_6 := x3.c6
    have qx3_7 := x3.c7
    have qx3_8 := x3.c8
    have qx3_9 := x3.c9
    have qx3_10 := x3.c10
    have qx3_11 := x3.c11
    have qx3_12 := x3.c12
    have qx3_13 := x3.c13
    have qx3_14 := x3.c14
    go_wp2_with fail
    ((with_reducible refine (C1.out.of hG hb).mono ?_); rintro e w2 ⟨rfl, hb2'⟩)
    clear qx3_0 qx3_1 qx3_2 qx3_3 qx3_4 qx3_5 qx3_6 qx3_7 qx3_8 qx3_9 qx3_10 qx3_11 qx3_12 qx3_13 qx3_14
    have hbA := below_alloc w2 (.cells #[.string ⟨([] : List UInt8).toArray⟩, .string ⟨([] : List UInt8).toArray⟩] 25)
    have x7 := FBox.new w2 (.string ⟨([] : List UInt8).toArray⟩) (.string ⟨([] : List UInt8).toArray⟩) 25
    have hb2 := bto hb2' hbA
    clear hb2' hbA
    replace x3 := x3.below hb2
    replace hb := bto hb hb2
    clear hb2
    have qx70 := x7.c0
    have qx71 := x7.c1
    go_wp2_with fail
    ((with_reducible refine (HAw.out.of hG hb).mono ?_); rintro e wz ⟨rfl, hbz⟩)
    replace hb := bto hb hbz
    clear hbz
    go_wp2
    go_ret
    exact ⟨rfl, hb⟩
  obtain ⟨hok, hcv, hq0, hev⟩ := even_ok gz
  rw [gz, show (evenV x q v).1 = stk x + Rat.divInt (val v) (val q) from congrArg Prod.fst hev] at c1
  have bR : Bd 34 (stk x + Rat.divInt (val v) (val q)) := bd_add (bd_of (r := (x.sn, x.sd)) HT.out (by decide)) (bd_divInt (val_lt_of Lv.out) (val_lt_of Lq.out) hq0)
  have lR := bd_len bR
  have hev2 := even_val hok hcv hq0
  have c2 : Ret 19 #[(Value.agg #[Value.string ⟨List.toArray x.id⟩, Value.int .i64 x.kind, Value.string ⟨List.toArray x.cur⟩, Value.int .i64 x.places, Value.int .i64 x.issued, Value.int .i64 x.matures, Value.string ⟨List.toArray x.fn⟩, Value.string ⟨List.toArray x.fd⟩, Value.string ⟨List.toArray x.cn⟩, Value.string ⟨List.toArray x.cd⟩, Value.int .i64 x.months, Value.int .i64 x.count, Value.string ⟨List.toArray x.other⟩, Value.string ⟨List.toArray x.sn⟩, Value.string ⟨List.toArray x.sd⟩]), .string ⟨q.toArray⟩, (Value.agg #[Value.string ⟨List.toArray (fN (stk x + Rat.divInt (val v) (val q)))⟩, Value.string ⟨List.toArray (fD (stk x + Rat.divInt (val v) (val q)))⟩])] (.tuple #[.string ⟨(if stk x + Rat.divInt (val v) (val q) < 0 then ([], 2) else (v, 0) : List UInt8 × Int).1.toArray⟩, .int .i64 (if stk x + Rat.divInt (val v) (val q) < 0 then ([], 2) else (v, 0) : List UInt8 × Int).2]) := by
    have h := fValue x HS.out q (Nat.le_trans Lq.out (by decide)) (fN (stk x + Rat.divInt (val v) (val q)), fD (stk x + Rat.divInt (val v) (val q))) ⟨Nat.le_trans lR.1 (by decide), Nat.le_trans lR.2 (by decide)⟩
    rw [hev2] at h; exact h
  obtain ⟨kc, ek⟩ : ∃ c, cmpQ (stk x + Rat.divInt (val v) (val q)) 0 = c := ⟨_, rfl⟩
  have C3 := Lib.hid (rCompare (isq_fr bR (by decide)) isq_zero ek)
  have hk := cmpQ_sgn ek
  generalize stk x + Rat.divInt (val v) (val q) = RN at *
  have C1 := Lib.hid c1
  clear c1 gz hok hcv hq0 hev hev2 ek bR lR HS HT Lq Lv
  generalize fN RN = u1 at *
  generalize fD RN = u2 at *
  have qx3_0 := x3.c0
  have qx3_1 := x3.c1
  have qx3_2 := x3.c2
  have qx3_3 := x3.c3
  have qx3_4 := x3.c4
  have qx3_5 := x3.c5
  have qx3_6 := x3.c6
  have qx3_7 := x3.c7
  have qx3_8 := x3.c8
  have qx3_9 := x3.c9
  have qx3_10 := x3.c10
  have qx3_11 := x3.c11
  have qx3_12 := x3.c12
  have qx3_13 := x3.c13
  have qx3_14 := x3.c14
  go_wp2_with fail
  ((with_reducible refine (C1.out.of hG hb).mono ?_); rintro e w2 ⟨rfl, hb2'⟩)
  clear qx3_0 qx3_1 qx3_2 qx3_3 qx3_4 qx3_5 qx3_6 qx3_7 qx3_8 qx3_9 qx3_10 qx3_11 qx3_12 qx3_13 qx3_14
  have hbA := below_alloc w2 (.cells #[.string ⟨u1.toArray⟩, .string ⟨u2.toArray⟩] 25)
  have x7 := FBox.new w2 (.string ⟨u1.toArray⟩) (.string ⟨u2.toArray⟩) 25
  have hb2 := bto hb2' hbA
  clear hb2' hbA
  replace x3 := x3.below hb2
  replace hb := bto hb hb2
  clear hb2
  by_cases g : RN < 0
  · rw [if_pos g] at c2
    have C2 := Lib.hid c2
    have t1 : decide (kc < 0) = true := decide_eq_true (hk.2.1.2 g)
    clear c2 g hk
    have qx3_0 := x3.c0
    have qx3_1 := x3.c1
    have qx3_2 := x3.c2
    have qx3_3 := x3.c3
    have qx3_4 := x3.c4
    have qx3_5 := x3.c5
    have qx3_6 := x3.c6
    have qx3_7 := x3.c7
    have qx3_8 := x3.c8
    have qx3_9 := x3.c9
    have qx3_10 := x3.c10
    have qx3_11 := x3.c11
    have qx3_12 := x3.c12
    have qx3_13 := x3.c13
    have qx3_14 := x3.c14
    have qx70 := x7.c0
    have qx71 := x7.c1
    go_wp2_with fail
    ((with_reducible refine (C2.out.of hG hb).mono ?_); rintro e w3 ⟨rfl, hb3⟩)
    clear qx3_0 qx3_1 qx3_2 qx3_3 qx3_4 qx3_5 qx3_6 qx3_7 qx3_8 qx3_9 qx3_10 qx3_11 qx3_12 qx3_13 qx3_14
    clear qx70 qx71
    replace x3 := x3.below hb3
    replace x7 := x7.below hb3
    replace hb := bto hb hb3
    clear hb3
    have qx70 := x7.c0
    have qx71 := x7.c1
    go_wp2_with fail
    ((with_reducible refine (C3.out.of hG hb).mono ?_); rintro e w4 ⟨rfl, hb4⟩)
    clear qx70 qx71
    replace hb := bto hb hb4
    clear hb4
    go_wp2_with fail
    ((with_reducible refine (HAw.out.of hG hb).mono ?_); rintro e wz ⟨rfl, hbz⟩)
    replace hb := bto hb hbz
    clear hbz
    go_wp2
    go_ret
    exact ⟨rfl, hb⟩
  · rw [if_neg g] at c2
    have C2 := Lib.hid c2
    have t1 : decide (kc < 0) = false := decide_eq_false (fun h => g (hk.2.1.1 h))
    clear c2 g hk
    have qx3_0 := x3.c0
    have qx3_1 := x3.c1
    have qx3_2 := x3.c2
    have qx3_3 := x3.c3
    have qx3_4 := x3.c4
    have qx3_5 := x3.c5
    have qx3_6 := x3.c6
    have qx3_7 := x3.c7
    have qx3_8 := x3.c8
    have qx3_9 := x3.c9
    have qx3_10 := x3.c10
    have qx3_11 := x3.c11
    have qx3_12 := x3.c12
    have qx3_13 := x3.c13
    have qx3_14 := x3.c14
    have qx70 := x7.c0
    have qx71 := x7.c1
    go_wp2_with fail
    ((with_reducible refine (C2.out.of hG hb).mono ?_); rintro e w3 ⟨rfl, hb3⟩)
    clear qx3_0 qx3_1 qx3_2 qx3_3 qx3_4 qx3_5 qx3_6 qx3_7 qx3_8 qx3_9 qx3_10 qx3_11 qx3_12 qx3_13 qx3_14
    clear qx70 qx71
    replace x3 := x3.below hb3
    replace x7 := x7.below hb3
    replace hb := bto hb hb3
    clear hb3
    have qx70 := x7.c0
    have qx71 := x7.c1
    go_wp2_with fail
    ((with_reducible refine (C3.out.of hG hb).mono ?_); rintro e w4 ⟨rfl, hb4⟩)
    clear qx70 qx71
    replace hb := bto hb hb4
    clear hb4
    go_wp2_with fail
    ((with_reducible refine (HAw.out.of hG hb).mono ?_); rintro e wz ⟨rfl, hbz⟩)
    replace hb := bto hb hbz
    clear hbz
    go_wp2
    go_ret
    exact ⟨rfl, hb⟩
end Go.Proofs.YtgnppdkeiihlfaaGreatDoor
