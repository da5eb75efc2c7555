/- The law ForwardOpposite. -/
import Derived.Test.YtgnppdkeiihlfaaGreatDoorF7
namespace Go.Proofs.YtgnppdkeiihlfaaGreatDoor
open Go.RowKit Num
theorem pres_len {x : Ins} {q : List UInt8} {r i y : Fp2} (hq : q.length ≤ 20) (hT : x.Tiny) (hr : r.1.length ≤ 20 ∧ r.2.length ≤ 20) (hi : i.1.length ≤ 20 ∧ i.2.length ≤ 20) (hy : y.1.length ≤ 20 ∧ y.2.length ≤ 20) : (presV x q r i y).1.length ≤ 200 := by
  unfold presV
  split
  · exact Nat.zero_le _
  · split
    · exact Nat.zero_le _
    · have bs : Bd 20 (stk x) := bd_of (r := (x.sn, x.sd)) hT (by decide)
      have bz : Bd 103 (qZ q * (fv r.1 r.2 - stk x) / upQ i y) := bd_div (bd_mul (bd_q hq (by decide)) (bd_sub (bd_of hr (by decide)) bs)) (bd_up hi hy (by decide) (by decide)) (by decide)
      exact Nat.le_trans (canon_len_le _ 104 (bd_rnd bz 1)) (by decide)
set_option maxHeartbeats 8000000 in
set_option maxRecDepth 100000 in
theorem opposite_law (x : Ins) (q : List UInt8) (r i y : Fp2) (w : World) (hG : Glob w) : Calls Tryz.prog 5 #[(Value.agg #[Value.string ⟨List.toArray x.id⟩, Value.int .i64 x.kind, Value.string ⟨List.toArray x.cur⟩, Value.int .i64 x.places, Value.int .i64 x.issued, Value.int .i64 x.matures, Value.string ⟨List.toArray x.fn⟩, Value.string ⟨List.toArray x.fd⟩, Value.string ⟨List.toArray x.cn⟩, Value.string ⟨List.toArray x.cd⟩, Value.int .i64 x.months, Value.int .i64 x.count, Value.string ⟨List.toArray x.other⟩, Value.string ⟨List.toArray x.sn⟩, Value.string ⟨List.toArray x.sd⟩]), .string ⟨q.toArray⟩, (Value.agg #[Value.string ⟨List.toArray (r.1)⟩, Value.string ⟨List.toArray (r.2)⟩]), (Value.agg #[Value.string ⟨List.toArray (i.1)⟩, Value.string ⟨List.toArray (i.2)⟩]), (Value.agg #[Value.string ⟨List.toArray (y.1)⟩, Value.string ⟨List.toArray (y.2)⟩])] w fun e w' => e = .returned (.bool true) ∧ Below w.heap.size w w' := by
  have HAw := Lib.hid wAwake12
  go_enter Tryz.func5, Tryz.ntmps5
  have x' := ((((IBox.new w x 27).below (below_alloc _ (.cells #[.string ⟨r.1.toArray⟩, .string ⟨r.2.toArray⟩] 25))).below (below_alloc _ (.cells #[.string ⟨i.1.toArray⟩, .string ⟨i.2.toArray⟩] 25))).below (below_alloc _ (.cells #[.string ⟨y.1.toArray⟩, .string ⟨y.2.toArray⟩] 25)))
  have qx5_0 := x'.c0
  have qx5_1 := x'.c1
  have qx5_2 := x'.c2
  have qx5_3 := x'.c3
  have qx5_4 := x'.c4
  have qx5_5 := x'.c5
  have qx5_6 := x'.c6
  have qx5_7 := x'.c7
  have qx5_8 := x'.c8
  have qx5_9 := x'.c9
  have qx5_10 := x'.c10
  have qx5_11 := x'.c11
  have qx5_12 := x'.c12
  have qx5_13 := x'.c13
  have qx5_14 := x'.c14
  go_wp2_with fail
  refine (lGreat x _ [q] 1 1 _ rfl (by decide) (stsAt_of (by first | (simp; done) | (simp; omega)) (fun i hi => by
    have hi : i = 0 := by simp at hi; omega
    subst hi; simp [go_sem]))).mono ?_
  rintro e w1 ⟨gb, rfl, hg, hb1'⟩
  have hb1 := bto (below_alloc _ _) hb1'
  have x5 := x'.below hb1
  have x7 : FBox w1 (w.heap.size + 1) (.string ⟨r.1.toArray⟩) (.string ⟨r.2.toArray⟩) := FBox.below ⟨by simp [go_sem], by simp [go_sem], by simp [go_sem], by simp [go_sem], by first | (simp; done) | (simp; omega)⟩ hb1
  have x8 : FBox w1 (w.heap.size + 2) (.string ⟨i.1.toArray⟩) (.string ⟨i.2.toArray⟩) := FBox.below ⟨by simp [go_sem], by simp [go_sem], by simp [go_sem], by simp [go_sem], by first | (simp; done) | (simp; omega)⟩ hb1
  have x9 : FBox w1 (w.heap.size + 3) (.string ⟨y.1.toArray⟩) (.string ⟨y.2.toArray⟩) := FBox.below ⟨by simp [go_sem], by simp [go_sem], by simp [go_sem], by simp [go_sem], by first | (simp; done) | (simp; omega)⟩ hb1
  have hb : Below w.heap.size w w1 := bto (bto (bto (bto (below_alloc _ _) (below_alloc _ _)) (below_alloc _ _)) (below_alloc _ _)) hb1
  clear qx5_0 qx5_1 qx5_2 qx5_3 qx5_4 qx5_5 qx5_6 qx5_7 qx5_8 qx5_9 qx5_10 qx5_11 qx5_12 qx5_13 qx5_14
  have HF := Lib.hid hg
  clear hg hb1 hb1' x'
  cases gb with
  | true =>
    clear HF
    go_wp2_with fail
    ((with_reducible refine (HAw.out.of hG hb).mono ?_); rintro e wz ⟨rfl, hbz⟩)
    replace hb := bto hb hbz
    clear hbz
    go_wp2
    go_ret
    exact ⟨rfl, hb⟩
  | false =>
  obtain ⟨hS, hT, hQ⟩ := HF.out rfl
  have lq : q.length ≤ 13 := hQ q (by simp)
  clear hQ HF
  have HS := Lib.hid hS
  have HT := Lib.hid hT
  clear hS hT
  have Lq := Lib.hid lq
  clear lq
  have qx70 := x7.c0
  have qx71 := x7.c1
  have qx80 := x8.c0
  have qx81 := x8.c1
  have qx90 := x9.c0
  have qx91 := x9.c1
  go_wp2_with fail
  refine (lLong _ [r, i, y] 3 3 _ rfl (by decide) (frAt_of (by first | (simp; done) | (simp; omega)) (fun i hi => by
    have hi : i = 0 ∨ i = 1 ∨ i = 2 := by simp at hi; omega
    rcases hi with rfl | rfl | rfl <;> simp [go_sem]))).mono ?_
  rintro e w2 ⟨rfl, hb2'⟩
  have hb2 := bto (below_alloc _ _) hb2'
  clear qx70 qx71 qx80 qx81 qx90 qx91 hb2'
  replace x5 := x5.below hb2
  replace x7 := x7.below hb2
  replace x8 := x8.below hb2
  replace x9 := x9.below hb2
  replace hb := bto hb hb2
  clear hb2
  by_cases gL : [r, i, y].any longF = true
  · rw [gL]
    clear gL
    go_wp2_with fail
    ((with_reducible refine (HAw.out.of hG hb).mono ?_); rintro e wz ⟨rfl, hbz⟩)
    replace hb := bto hb hbz
    clear hbz
    go_wp2
    go_ret
    exact ⟨rfl, hb⟩
  rw [not_true_b gL]
  have hL := not_true_b gL
  clear gL
  simp only [List.any_cons, List.any_nil, Bool.or_false, Bool.or_eq_false_iff] at hL
  have Lr := Lib.hid (longF_no hL.1)
  have Li := Lib.hid (longF_no hL.2.1)
  have Ly := Lib.hid (longF_no hL.2.2)
  clear hL
  have CI := Lib.hid (riCheck (l := q) (by have := Lq.out; omega) (c := if q = canon (val q) then 0 else 1) rfl)
  by_cases g2 : q = canon (val q)
  rotate_left
  · rw [if_neg g2] at CI
    clear g2
    go_wp2_with fail
    ((with_reducible refine (CI.out.of hG hb).mono ?_); rintro e w4 ⟨rfl, hb4⟩)
    replace x5 := x5.below hb4
    replace x7 := x7.below hb4
    replace x8 := x8.below hb4
    replace x9 := x9.below hb4
    replace hb := bto hb hb4
    clear hb4
    go_wp2_with fail
    ((with_reducible refine (HAw.out.of hG hb).mono ?_); rintro e wz ⟨rfl, hbz⟩)
    replace hb := bto hb hbz
    clear hbz
    go_wp2
    go_ret
    exact ⟨rfl, hb⟩
  rw [if_pos g2] at CI
  have hq : q.length ≤ 20 := Nat.le_trans Lq.out (by decide)
  have hnl : (canon (-val q)).length ≤ 14 := canon_len_le _ 13 (by rw [Int.natAbs_neg]; exact val_lt_of Lq.out)
  have hpl := pres_len (x := x) (r := r) (i := i) (y := y) hq HT.out ⟨Nat.le_trans Lr.out.1 (by decide), Nat.le_trans Lr.out.2 (by decide)⟩ ⟨Nat.le_trans Li.out.1 (by decide), Nat.le_trans Li.out.2 (by decide)⟩ ⟨Nat.le_trans Ly.out.1 (by decide), Nat.le_trans Ly.out.2 (by decide)⟩
  have c1 := fPresent x HS.out q (Nat.le_trans Lq.out (by decide)) r i y ⟨Nat.le_trans Lr.out.1 (by decide), Nat.le_trans Lr.out.2 (by decide)⟩ ⟨Nat.le_trans Li.out.1 (by decide), Nat.le_trans Li.out.2 (by decide)⟩ ⟨Nat.le_trans Ly.out.1 (by decide), Nat.le_trans Ly.out.2 (by decide)⟩
  have c2 := fPresent x HS.out (canon (-val q)) (Nat.le_trans hnl (by decide)) r i y ⟨Nat.le_trans Lr.out.1 (by decide), Nat.le_trans Lr.out.2 (by decide)⟩ ⟨Nat.le_trans Li.out.1 (by decide), Nat.le_trans Li.out.2 (by decide)⟩ ⟨Nat.le_trans Ly.out.1 (by decide), Nat.le_trans Ly.out.2 (by decide)⟩
  rw [pres_neg g2] at c2
  have CN := Lib.hid (riNeg (l := q) (by omega) rfl)
  have c3 := riNeg (l := (presV x q r i y).1) (Nat.le_trans hpl (by decide)) rfl
  have c4 := fun (w' : World) (hb : Below w.heap.size w w') => fSettle x HS.out HT.out q hq w' (hG.below hb)
  have c5 := fun (w' : World) (hb : Below w.heap.size w w') => fSettle x HS.out HT.out (canon (-val q)) (Nat.le_trans hnl (by decide)) w' (hG.below hb)
  rw [setV_neg g2] at c5
  have hbad1 := setV_bad (x := x) (q := q)
  have hbad2 := setV_bad (x := x) (q := canon (-val q))
  rw [setV_neg g2] at hbad2
  have hok : (setV x q).2 = 0 → (setV x (canon (-val q))).1.map negM = (setV x q).1 ∧ BG (setV x (canon (-val q))).1 43 2 ∧ (setV x (canon (-val q))).1.length ≤ 16 ∧ (setV x q).1.length ≤ 16 := fun h => by
    obtain ⟨h1, h2⟩ := setV_ok h
    have h3 : (setV x (canon (-val q))).2 = 0 := by rw [setV_neg g2]; exact h
    obtain ⟨-, h4⟩ := setV_ok h3
    have hf := fwd_of (ok_iff.1 h1).1
    have b2 := set_bg2 (x := x) (q := canon (-val q)) hf HT.out (Nat.le_trans hnl (by decide))
    have b1 := set_bg2 (x := x) (q := q) hf HT.out hq
    rw [h2, h4]
    exact ⟨set_neg x q, b2, Nat.le_trans b2.len (by decide), Nat.le_trans b1.len (by decide)⟩
  generalize canon (-val (presV x q r i y).1) = nv at *
  generalize (presV x q r i y).1 = v1 at *
  generalize (presV x q r i y).2 = z1 at *
  generalize (setV x (canon (-val q))).1 = YL at *
  generalize (setV x q).1 = ZL at *
  generalize (setV x q).2 = z at *
  generalize canon (-val q) = nq at *
  have CP1 := Lib.hid c1
  have CP2 := Lib.hid c2
  have CNV := Lib.hid c3
  have CS1 := Lib.hid c4
  have CS2 := Lib.hid c5
  have HB1 := Lib.hid hbad1
  have HB2 := Lib.hid hbad2
  have HOK := Lib.hid hok
  clear c1 c2 c3 c4 c5 hbad1 hbad2 hok g2 hq hnl hpl HS HT Lq Lr Li Ly
  go_wp2_with fail
  ((with_reducible refine (CI.out.of hG hb).mono ?_); rintro e w4 ⟨rfl, hb4⟩)
  replace x5 := x5.below hb4
  replace x7 := x7.below hb4
  replace x8 := x8.below hb4
  replace x9 := x9.below hb4
  replace hb := bto hb hb4
  clear hb4
  clear CI
  have qx5_0 := x5.c0
  have qx5_1 := x5.c1
  have qx5_2 := x5.c2
  have qx5_3 := x5.c3
  have qx5_4 := x5.c4
  have qx5_5 := x5.c5
  have qx5_6 := x5.c6
  have qx5_7 := x5.c7
  have qx5_8 := x5.c8
  have qx5_9 := x5.c9
  have qx5_10 := x5.c10
  have qx5_11 := x5.c11
  have qx5_12 := x5.c12
  have qx5_13 := x5.c13
  have qx5_14 := x5.c14
  have qx70 := x7.c0
  have qx71 := x7.c1
  have qx80 := x8.c0
  have qx81 := x8.c1
  have qx90 := x9.c0
  have qx91 := x9.c1
  go_wp2_with fail
  ((with_reducible refine (CP1.out.of hG hb).mono ?_); rintro e w5 ⟨rfl, hb5⟩)
  clear qx5_0 qx5_1 qx5_2 qx5_3 qx5_4 qx5_5 qx5_6 qx5_7 qx5_8 qx5_9 qx5_10 qx5_11 qx5_12 qx5_13 qx5_14
  clear qx70 qx71 qx80 qx81 qx90 qx91
  replace x5 := x5.below hb5
  replace x7 := x7.below hb5
  replace x8 := x8.below hb5
  replace x9 := x9.below hb5
  replace hb := bto hb hb5
  clear hb5
  go_wp2_with fail
  refine wp_region_kept (by kernel_rfl) (by kernel_rfl) ?_
  refine kept_val _ (fun _ => rfl) (fun ρ w hw => by have q0 := (x5.below hw).c0; have q1 := (x5.below hw).c1; have q2 := (x5.below hw).c2; have q3 := (x5.below hw).c3; have q4 := (x5.below hw).c4; have q5 := (x5.below hw).c5; have q6 := (x5.below hw).c6; have q7 := (x5.below hw).c7; have q8 := (x5.below hw).c8; have q9 := (x5.below hw).c9; have q10 := (x5.below hw).c10; have q11 := (x5.below hw).c11; have q12 := (x5.below hw).c12; have q13 := (x5.below hw).c13; have q14 := (x5.below hw).c14; go_simp; first | done | with_reducible rfl) ?_
  simp only [Act.put, List.setIfInBounds_toArray, List.set_cons_zero, List.set_cons_succ, Nat.reduceAdd]
  refine kept_val _ (fun _ => rfl) (fun ρ w hw => by go_simp; first | done | with_reducible rfl) ?_
  simp only [Act.put, List.setIfInBounds_toArray, List.set_cons_zero, List.set_cons_succ, Nat.reduceAdd]
  refine kept_call _ _ _ (fun _ => rfl) (fun ρ w hw => by go_simp; first | done | with_reducible rfl) (fun w hw => CN.out.of hG (bto hb hw)) ?_
  simp only [Act.put, List.setIfInBounds_toArray, List.set_cons_zero, List.set_cons_succ, Nat.reduceAdd]
  refine kept_val _ (fun _ => rfl) (fun ρ w hw => by have q0 := (x7.below hw).c0; have q1 := (x7.below hw).c1; go_simp; first | done | with_reducible rfl) ?_
  simp only [Act.put, List.setIfInBounds_toArray, List.set_cons_zero, List.set_cons_succ, Nat.reduceAdd]
  refine kept_val _ (fun _ => rfl) (fun ρ w hw => by have q0 := (x8.below hw).c0; have q1 := (x8.below hw).c1; go_simp; first | done | with_reducible rfl) ?_
  simp only [Act.put, List.setIfInBounds_toArray, List.set_cons_zero, List.set_cons_succ, Nat.reduceAdd]
  refine kept_val _ (fun _ => rfl) (fun ρ w hw => by have q0 := (x9.below hw).c0; have q1 := (x9.below hw).c1; go_simp; first | done | with_reducible rfl) ?_
  simp only [Act.put, List.setIfInBounds_toArray, List.set_cons_zero, List.set_cons_succ, Nat.reduceAdd]
  refine kept_call _ _ _ (fun _ => rfl) (fun ρ w hw => by go_simp; first | done | with_reducible rfl) (fun w hw => CP2.out.of hG (bto hb hw)) ?_
  simp only [Act.put, List.setIfInBounds_toArray, List.set_cons_zero, List.set_cons_succ, Nat.reduceAdd]
  refine kept_val _ (fun _ => rfl) (fun ρ w hw => by go_simp; first | done | with_reducible rfl) ?_
  simp only [Act.put, List.setIfInBounds_toArray, List.set_cons_zero, List.set_cons_succ, Nat.reduceAdd]
  refine kept_val _ (fun _ => rfl) (fun ρ w hw => by go_simp; first | done | with_reducible rfl) ?_
  simp only [Act.put, List.setIfInBounds_toArray, List.set_cons_zero, List.set_cons_succ, Nat.reduceAdd]
  refine kept_val _ (fun _ => rfl) (fun ρ w hw => by go_simp; first | done | with_reducible rfl) ?_
  simp only [Act.put, List.setIfInBounds_toArray, List.set_cons_zero, List.set_cons_succ, Nat.reduceAdd]
  refine kept_val _ (fun _ => rfl) (fun ρ w hw => by go_simp; first | done | with_reducible rfl) ?_
  simp only [Act.put, List.setIfInBounds_toArray, List.set_cons_zero, List.set_cons_succ, Nat.reduceAdd]
  refine kept_val _ (fun _ => rfl) (fun ρ w hw => by go_simp; first | done | with_reducible rfl) ?_
  simp only [Act.put, List.setIfInBounds_toArray, List.set_cons_zero, List.set_cons_succ, Nat.reduceAdd]
  refine kept_end (fun ρ w61 hF => ?_)
  replace x5 := x5.below hF.below
  replace x7 := x7.below hF.below
  replace x8 := x8.below hF.below
  replace x9 := x9.below hF.below
  replace hb := bto hb hF.below
  clear hF
  clear CP1 CP2 x7 x8 x9
  have qx5_0 := x5.c0
  have qx5_1 := x5.c1
  have qx5_2 := x5.c2
  have qx5_3 := x5.c3
  have qx5_4 := x5.c4
  have qx5_5 := x5.c5
  have qx5_6 := x5.c6
  have qx5_7 := x5.c7
  have qx5_8 := x5.c8
  have qx5_9 := x5.c9
  have qx5_10 := x5.c10
  have qx5_11 := x5.c11
  have qx5_12 := x5.c12
  have qx5_13 := x5.c13
  have qx5_14 := x5.c14
  go_wp2_with fail
  refine (CS1.out _ hb).mono ?_
  rintro e w6 ⟨B6, m6, c6, rfl, hm6, hc6, hM6, hb6⟩
  clear qx5_0 qx5_1 qx5_2 qx5_3 qx5_4 qx5_5 qx5_6 qx5_7 qx5_8 qx5_9 qx5_10 qx5_11 qx5_12 qx5_13 qx5_14
  replace x5 := x5.below hb6
  replace hb := bto hb hb6
  clear hb6
  clear CS1
  go_wp2_with fail
  refine wp_region_gain (by kernel_rfl) (by kernel_rfl) ?_
  refine gain_val _ (fun _ => rfl) (fun ρ w hw => by have q0 := (x5.below hw).c0; have q1 := (x5.below hw).c1; have q2 := (x5.below hw).c2; have q3 := (x5.below hw).c3; have q4 := (x5.below hw).c4; have q5 := (x5.below hw).c5; have q6 := (x5.below hw).c6; have q7 := (x5.below hw).c7; have q8 := (x5.below hw).c8; have q9 := (x5.below hw).c9; have q10 := (x5.below hw).c10; have q11 := (x5.below hw).c11; have q12 := (x5.below hw).c12; have q13 := (x5.below hw).c13; have q14 := (x5.below hw).c14; go_simp; first | done | with_reducible rfl) ?_
  simp only [Act.put, List.setIfInBounds_toArray, List.set_cons_zero, List.set_cons_succ, Nat.reduceAdd]
  refine gain_val _ (fun _ => rfl) (fun ρ w hw => by go_simp; first | done | with_reducible rfl) ?_
  simp only [Act.put, List.setIfInBounds_toArray, List.set_cons_zero, List.set_cons_succ, Nat.reduceAdd]
  refine gain_call _ _ _ (fun _ => rfl) (fun ρ w hw => by go_simp; first | done | with_reducible rfl) (fun w hw => CN.out.of hG (bto hb hw)) ?_
  simp only [Act.put, List.setIfInBounds_toArray, List.set_cons_zero, List.set_cons_succ, Nat.reduceAdd]
  refine gain_new _ _ (fun wz u => ∃ B m cp, u = .tuple #[.slice B m cp, .int .i64 z] ∧ YL.length = m ∧ m ≤ cp ∧ MonAt wz B YL) rfl (fun w1 w2 u ⟨B, m, cp, e, h1, h2, h3⟩ hb => ⟨B, m, cp, e, h1, h2, h3.below hb⟩) (fun _ => rfl) (fun ρ w hw => by go_simp; first | done | with_reducible rfl) (fun wz hw => (CS2.out wz (bto hb hw)).mono fun e w' ⟨B, m, cp, he, h1, h2, h3, h4⟩ => ⟨_, he, h4, B, m, cp, rfl, h1, h2, h3⟩) ?_
  simp only [Act.put, List.setIfInBounds_toArray, List.set_cons_zero, List.set_cons_succ, Nat.reduceAdd]
  refine gain_newN 3 (fun wz u => ∃ B m cp, u = .tuple #[.slice B m cp, .int .i64 z] ∧ YL.length = m ∧ m ≤ cp ∧ MonAt wz B YL) (fun wz u => ∃ B m cp, u = .tuple #[.slice B m cp, .int .i64 z] ∧ YL.length = m ∧ m ≤ cp ∧ MonAt wz B YL) _ 67 rfl (fun w1 w2 u ⟨B, m, cp, e, h1, h2, h3⟩ hb => ⟨B, m, cp, e, h1, h2, h3.below hb⟩) rfl rfl rfl (by decide) (fun _ => rfl) (fun ρ w hw ⟨B, m, cp, e, h⟩ => ⟨.tuple #[.slice B m cp, .int .i64 z], by simp only [e]; go_simp; first | done | with_reducible rfl, B, m, cp, rfl, h⟩) ?_
  simp only [Act.put, List.setIfInBounds_toArray, List.set_cons_zero, List.set_cons_succ, Nat.reduceAdd]
  refine gain_newN 4 (fun wz u => ∃ B m cp, u = .tuple #[.slice B m cp, .int .i64 z] ∧ YL.length = m ∧ m ≤ cp ∧ MonAt wz B YL) (fun wz u => ∃ B m cp, u = .slice B m cp ∧ YL.length = m ∧ m ≤ cp ∧ MonAt wz B YL) _ 63 rfl (fun w1 w2 u ⟨B, m, cp, e, h1, h2, h3⟩ hb => ⟨B, m, cp, e, h1, h2, h3.below hb⟩) rfl rfl rfl (by decide) (fun _ => rfl) (fun ρ w hw ⟨B, m, cp, e, h⟩ => ⟨.slice B m cp, by simp only [e]; go_simp; first | done | with_reducible rfl, B, m, cp, rfl, h⟩) ?_
  simp only [Act.put, List.setIfInBounds_toArray, List.set_cons_zero, List.set_cons_succ, Nat.reduceAdd]
  refine gain_valN 4 (fun wz u => ∃ B m cp, u = .tuple #[.slice B m cp, .int .i64 z] ∧ YL.length = m ∧ m ≤ cp ∧ MonAt wz B YL) (.int .i64 z) _ 63 rfl rfl rfl (by decide) (fun _ => rfl) (fun ρ w hw ⟨B, m, cp, e, h⟩ => by simp only [e]; go_simp; first | done | with_reducible rfl) ?_
  simp only [Act.put, List.setIfInBounds_toArray, List.set_cons_zero, List.set_cons_succ, Nat.reduceAdd]
  refine gain_newN 5 (fun wz u => ∃ B m cp, u = .slice B m cp ∧ YL.length = m ∧ m ≤ cp ∧ MonAt wz B YL) (fun wz u => ∃ B m cp, u = .slice B m cp ∧ YL.length = m ∧ m ≤ cp ∧ MonAt wz B YL) _ 68 rfl (fun w1 w2 u ⟨B, m, cp, e, h1, h2, h3⟩ hb => ⟨B, m, cp, e, h1, h2, h3.below hb⟩) rfl rfl rfl (by decide) (fun _ => rfl) (fun ρ w hw ⟨B, m, cp, e, h⟩ => ⟨.slice B m cp, by simp only [e]; go_simp; first | done | with_reducible rfl, B, m, cp, rfl, h⟩) ?_
  simp only [Act.put, List.setIfInBounds_toArray, List.set_cons_zero, List.set_cons_succ, Nat.reduceAdd]
  refine gain_val _ (fun _ => rfl) (fun ρ w hw => by go_simp; first | done | with_reducible rfl) ?_
  simp only [Act.put, List.setIfInBounds_toArray, List.set_cons_zero, List.set_cons_succ, Nat.reduceAdd]
  intro ρ w7 hF
  obtain ⟨⟨B7, m7, c7, e7, hm7, hc7, hM7⟩, -⟩ := hF.box 7 _ rfl
  have hb7 := hF.below
  replace hM6 := hM6.below hb7
  replace hb := bto hb hb7
  simp only [e7]
  clear hF e7 hb7 x5 CN CS2
  go_wp2_with fail
  ((with_reducible refine (CNV.out.of hG hb).mono ?_); rintro e w8 ⟨rfl, hb8⟩)
  replace hM6 := hM6.below hb8
  replace hM7 := hM7.below hb8
  replace hb := bto hb hb8
  clear hb8 CNV
  by_cases gz : z = 0
  rotate_left
  · have tz : (z != 0) = true := bneq' (intbne gz)
    have e1 := HB1.out gz
    have e2 := HB2.out gz
    rw [e1] at hm6
    rw [e2] at hm7
    have hm6 : 0 = m6 := hm6
    have hm7 : 0 = m7 := hm7
    subst hm6 hm7
    clear gz e1 e2 hM6 hM7 HB1 HB2 HOK hc6 hc7
    go_wp2_with fail
    ((with_reducible refine (HAw.out.of hG hb).mono ?_); rintro e wz ⟨rfl, hbz⟩)
    replace hb := bto hb hbz
    clear hbz
    go_wp2
    go_ret
    exact ⟨rfl, hb⟩
  obtain ⟨h1, h2, h3, h4⟩ := HOK.out gz
  have tz : (z != 0) = false := bneq (intbeq gz)
  have CM := Lib.hid (mNegG (hG.below hb) h2 (by decide) ⟨hm7, hc7, hM7⟩ h3)
  rw [h1] at CM
  have H4 := Lib.hid h4
  have HM6 := Lib.hid hm6
  clear gz h1 h2 h3 h4 hm7 hc7 hM7 HB1 HB2 HOK hm6
  go_wp2_with fail
  refine CM.out.mono ?_
  rintro e w9 ⟨B9, m9, c9, rfl, hA9, hb9⟩
  replace hM6 := hM6.below hb9
  replace hb := bto hb hb9
  have CE := Lib.hid (eqMG hA9 (⟨HM6.out, hc6, hM6⟩ : AtM w9 B6 ZL m6 c6) rfl H4.out)
  clear CM hb9 hA9 hM6 hc6
  go_wp2_with fail
  ((with_reducible refine CE.out.mono ?_); rintro e w10 ⟨rfl, hb10⟩)
  replace hb := bto hb hb10
  clear hb10 CE
  go_wp2_with fail
  ((with_reducible refine (HAw.out.of hG hb).mono ?_); rintro e wz ⟨rfl, hbz⟩)
  replace hb := bto hb hbz
  clear hbz
  go_wp2
  go_ret
  exact ⟨rfl, hb⟩
theorem opposite_law' (x : Ins) (q r1 r2 i1 i2 y1 y2 : List UInt8) (w : World) (hG : Glob w) : Calls Tryz.prog 5 #[(Value.agg #[Value.string ⟨List.toArray x.id⟩, Value.int .i64 x.kind, Value.string ⟨List.toArray x.cur⟩, Value.int .i64 x.places, Value.int .i64 x.issued, Value.int .i64 x.matures, Value.string ⟨List.toArray x.fn⟩, Value.string ⟨List.toArray x.fd⟩, Value.string ⟨List.toArray x.cn⟩, Value.string ⟨List.toArray x.cd⟩, Value.int .i64 x.months, Value.int .i64 x.count, Value.string ⟨List.toArray x.other⟩, Value.string ⟨List.toArray x.sn⟩, Value.string ⟨List.toArray x.sd⟩]), .string ⟨q.toArray⟩, (Value.agg #[Value.string ⟨List.toArray r1⟩, Value.string ⟨List.toArray r2⟩]), (Value.agg #[Value.string ⟨List.toArray i1⟩, Value.string ⟨List.toArray i2⟩]), (Value.agg #[Value.string ⟨List.toArray y1⟩, Value.string ⟨List.toArray y2⟩])] w fun e w' => e = .returned (.bool true) ∧ Below w.heap.size w w' := opposite_law x q (r1, r2) (i1, i2) (y1, y2) w hG
end Go.Proofs.YtgnppdkeiihlfaaGreatDoor
