/- The law ForwardInverse. -/
import Derived.Test.YtgnppdkeiihlfaaGreatDoorF7
namespace Go.Proofs.YtgnppdkeiihlfaaGreatDoor
open Go.RowKit Num
set_option maxHeartbeats 8000000 in
set_option maxRecDepth 100000 in
theorem inverse_law (s d f y : Fp2) (w : World) (hG : Glob w) : Calls Tryz.prog 7 #[(Value.agg #[Value.string ⟨List.toArray (s.1)⟩, Value.string ⟨List.toArray (s.2)⟩]), (Value.agg #[Value.string ⟨List.toArray (d.1)⟩, Value.string ⟨List.toArray (d.2)⟩]), (Value.agg #[Value.string ⟨List.toArray (f.1)⟩, Value.string ⟨List.toArray (f.2)⟩]), (Value.agg #[Value.string ⟨List.toArray (y.1)⟩, Value.string ⟨List.toArray (y.2)⟩])] w fun e w' => e = .returned (.bool true) ∧ Below w.heap.size w w' := by
  have HAw := Lib.hid wAwake12
  go_enter Tryz.func7, Tryz.ntmps7
  go_wp2_with fail
  refine (lLong _ [s, d, f, y] 4 4 _ rfl (by decide) (frAt_of (by first | (simp; done) | (simp; omega)) (fun i hi => by
    have hi : i = 0 ∨ i = 1 ∨ i = 2 ∨ i = 3 := by simp at hi; omega
    rcases hi with rfl | rfl | rfl | rfl <;> simp [go_sem]))).mono ?_
  rintro e w1 ⟨rfl, hb1⟩
  have x4 : FBox w1 (w.heap.size) (.string ⟨s.1.toArray⟩) (.string ⟨s.2.toArray⟩) := FBox.below ⟨by simp [go_sem], by simp [go_sem], by simp [go_sem], by simp [go_sem], by first | (simp; done) | (simp; omega)⟩ hb1
  have x5 : FBox w1 (w.heap.size + 1) (.string ⟨d.1.toArray⟩) (.string ⟨d.2.toArray⟩) := FBox.below ⟨by simp [go_sem], by simp [go_sem], by simp [go_sem], by simp [go_sem], by first | (simp; done) | (simp; omega)⟩ hb1
  have x6 : FBox w1 (w.heap.size + 2) (.string ⟨f.1.toArray⟩) (.string ⟨f.2.toArray⟩) := FBox.below ⟨by simp [go_sem], by simp [go_sem], by simp [go_sem], by simp [go_sem], by first | (simp; done) | (simp; omega)⟩ hb1
  have x7 : FBox w1 (w.heap.size + 3) (.string ⟨y.1.toArray⟩) (.string ⟨y.2.toArray⟩) := FBox.below ⟨by simp [go_sem], by simp [go_sem], by simp [go_sem], by simp [go_sem], by first | (simp; done) | (simp; omega)⟩ hb1
  have hb : Below w.heap.size w w1 := bto (bto (bto (bto (bto (below_alloc _ _) (below_alloc _ _)) (below_alloc _ _)) (below_alloc _ _)) (below_alloc _ _)) hb1
  clear hb1
  by_cases gL : [s, d, f, y].any longF = true
  · rw [gL]
    clear gL
    go_wp2_with fail
    ((with_reducible refine (HAw.out.of hG hb).mono ?_); rintro e wz ⟨rfl, hbz⟩)
    replace hb := bto hb hbz
    clear hbz
    go_wp2
    go_ret
    exact ⟨rfl, hb⟩
  rw [not_true_b gL]
  have hL := not_true_b gL
  clear gL
  simp only [List.any_cons, List.any_nil, Bool.or_false, Bool.or_eq_false_iff] at hL
  have Ls := Lib.hid (longF_no hL.1)
  have Ld := Lib.hid (longF_no hL.2.1)
  have Lf := Lib.hid (longF_no hL.2.2.1)
  have Ly := Lib.hid (longF_no hL.2.2.2)
  clear hL
  have c1 := fFair s d f y ⟨Nat.le_trans Ls.out.1 (by decide), Nat.le_trans Ls.out.2 (by decide)⟩ ⟨Nat.le_trans Ld.out.1 (by decide), Nat.le_trans Ld.out.2 (by decide)⟩ ⟨Nat.le_trans Lf.out.1 (by decide), Nat.le_trans Lf.out.2 (by decide)⟩ ⟨Nat.le_trans Ly.out.1 (by decide), Nat.le_trans Ly.out.2 (by decide)⟩
  by_cases gz : (fairV s d f y).2 = 0
  rotate_left
  · have hq := fair_bad gz
    rw [hq, fn0.1, fn0.2] at c1
    have tz : ((fairV s d f y).2 != 0) = true := bneq' (intbne gz)
    generalize (fairV s d f y).2 = z at *
    have C1 := Lib.hid c1
    have hE := fun (w : World) => eqP1 [] [] [] [] w
    simp only [sameP_self] at hE
    have hEG := guardP
    clear c1 gz hq Ls Ld Lf Ly
    have qx40 := x4.c0
    have qx41 := x4.c1
    have qx50 := x5.c0
    have qx51 := x5.c1
    have qx60 := x6.c0
    have qx61 := x6.c1
    have qx70 := x7.c0
    have qx71 := x7.c1
    go_wp2_with fail
    ((with_reducible refine (C1.out.of hG hb).mono ?_); rintro e w2 ⟨rfl, hb2'⟩)
    clear qx40 qx41 qx50 qx51 qx60 qx61 qx70 qx71
    have hbA := below_alloc w2 (.cells #[.string ⟨([] : List UInt8).toArray⟩, .string ⟨([] : List UInt8).toArray⟩] 25)
    have x9 := FBox.new w2 (.string ⟨([] : List UInt8).toArray⟩) (.string ⟨([] : List UInt8).toArray⟩) 25
    have hb2 := bto hb2' hbA
    clear hb2' hbA
    replace x4 := x4.below hb2
    replace x5 := x5.below hb2
    replace x6 := x6.below hb2
    replace x7 := x7.below hb2
    replace hb := bto hb hb2
    clear hb2
    have qx90 := x9.c0
    have qx91 := x9.c1
    go_wp2_with fail
    ((with_reducible refine (HAw.out.of hG hb).mono ?_); rintro e wz ⟨rfl, hbz⟩)
    replace hb := bto hb hbz
    clear hbz
    go_wp2
    go_ret
    exact ⟨rfl, hb⟩
  have ho := fair_ok gz
  rw [gz] at c1
  have hfi := fair_is ho
  have hQ : (fairV s d f y).1 = fv s.1 s.2 * upQ d y / upQ f y := congrArg Prod.fst hfi
  rw [hQ] at c1
  have bQ : Bd 69 (fv s.1 s.2 * upQ d y / upQ f y) := bd_div (bd_mul (bd_of Ls.out (by decide)) (bd_up Ld.out Ly.out (by decide) (by decide))) (bd_up Lf.out Ly.out (by decide) (by decide)) (by decide)
  have lQ := bd_len bQ
  have c2 := fImplied s (fN (fv s.1 s.2 * upQ d y / upQ f y), fD (fv s.1 s.2 * upQ d y / upQ f y)) d y ⟨Nat.le_trans Ls.out.1 (by decide), Nat.le_trans Ls.out.2 (by decide)⟩ ⟨Nat.le_trans lQ.1 (by decide), Nat.le_trans lQ.2 (by decide)⟩ ⟨Nat.le_trans Ld.out.1 (by decide), Nat.le_trans Ld.out.2 (by decide)⟩ ⟨Nat.le_trans Ly.out.1 (by decide), Nat.le_trans Ly.out.2 (by decide)⟩
  rw [inv_back ho] at c2
  have hcs := canB_eq ho.cs
  have hcf := canB_eq ho.cf
  have c3 : Ret 27 #[(Value.agg #[Value.string ⟨List.toArray (s.1)⟩, Value.string ⟨List.toArray (s.2)⟩]), (Value.agg #[Value.string ⟨List.toArray (d.1)⟩, Value.string ⟨List.toArray (d.2)⟩]), (Value.agg #[Value.string ⟨List.toArray (f.1)⟩, Value.string ⟨List.toArray (f.2)⟩]), .agg #[.string ⟨#[]⟩, .string ⟨#[]⟩]] (.tuple #[(Value.agg #[Value.string ⟨List.toArray (s.1)⟩, Value.string ⟨List.toArray (s.2)⟩]), .int .i64 0]) := by
    have h := fFair s d f zz ⟨Nat.le_trans Ls.out.1 (by decide), Nat.le_trans Ls.out.2 (by decide)⟩ ⟨Nat.le_trans Ld.out.1 (by decide), Nat.le_trans Ld.out.2 (by decide)⟩ ⟨Nat.le_trans Lf.out.1 (by decide), Nat.le_trans Lf.out.2 (by decide)⟩ ⟨by decide, by decide⟩
    rw [inv_none ho] at h
    dsimp only at h
    rw [← hcs.1, ← hcs.2] at h
    exact h
  have c4 : Ret 27 #[(Value.agg #[Value.string ⟨List.toArray (s.1)⟩, Value.string ⟨List.toArray (s.2)⟩]), (Value.agg #[Value.string ⟨List.toArray (d.1)⟩, Value.string ⟨List.toArray (d.2)⟩]), (Value.agg #[Value.string ⟨List.toArray (d.1)⟩, Value.string ⟨List.toArray (d.2)⟩]), (Value.agg #[Value.string ⟨List.toArray (y.1)⟩, Value.string ⟨List.toArray (y.2)⟩])] (.tuple #[(Value.agg #[Value.string ⟨List.toArray (s.1)⟩, Value.string ⟨List.toArray (s.2)⟩]), .int .i64 0]) := by
    have h := fFair s d d y ⟨Nat.le_trans Ls.out.1 (by decide), Nat.le_trans Ls.out.2 (by decide)⟩ ⟨Nat.le_trans Ld.out.1 (by decide), Nat.le_trans Ld.out.2 (by decide)⟩ ⟨Nat.le_trans Ld.out.1 (by decide), Nat.le_trans Ld.out.2 (by decide)⟩ ⟨Nat.le_trans Ly.out.1 (by decide), Nat.le_trans Ly.out.2 (by decide)⟩
    rw [inv_same ho] at h
    dsimp only at h
    rw [← hcs.1, ← hcs.2] at h
    exact h
  have hzc := zero_can' ho.cy
  generalize fN (fv s.1 s.2 * upQ d y / upQ f y) = u1 at *
  generalize fD (fv s.1 s.2 * upQ d y / upQ f y) = u2 at *
  have hEs := fun (w : World) => eqP1 s.1 s.2 s.1 s.2 w
  have hEf := fun (w : World) => eqP1 f.1 f.2 f.1 f.2 w
  have hEy := fun (w : World) => eqP1 y.1 y.2 [] [] w
  simp only [sameP_self] at hEs hEf
  have hEG := guardP
  have C1 := Lib.hid c1
  have C3 := Lib.hid c3
  have C4 := Lib.hid c4
  by_cases gy : fv y.1 y.2 = 0
  · rw [if_pos gy] at c2
    have c2 : Ret 29 #[(Value.agg #[Value.string ⟨List.toArray (s.1)⟩, Value.string ⟨List.toArray (s.2)⟩]), (Value.agg #[Value.string ⟨List.toArray u1⟩, Value.string ⟨List.toArray u2⟩]), (Value.agg #[Value.string ⟨List.toArray (d.1)⟩, Value.string ⟨List.toArray (d.2)⟩]), (Value.agg #[Value.string ⟨List.toArray (y.1)⟩, Value.string ⟨List.toArray (y.2)⟩])] (.tuple #[.agg #[.string ⟨#[]⟩, .string ⟨#[]⟩], .int .i64 10]) := by
      have h := c2
      dsimp only at h
      rw [fn0.1, fn0.2] at h
      exact h
    have C2 := Lib.hid c2
    obtain ⟨y1, y2⟩ := hzc.1 gy
    have hey : sameP y.1 y.2 [] [] = true := by rw [y1, y2]; rfl
    rw [hey] at hEy
    clear c1 c2 c3 c4 gz ho hfi hQ bQ lQ hcs hcf hzc gy y1 y2 hey hEf Ls Ld Lf Ly
    have qx40 := x4.c0
    have qx41 := x4.c1
    have qx50 := x5.c0
    have qx51 := x5.c1
    have qx60 := x6.c0
    have qx61 := x6.c1
    have qx70 := x7.c0
    have qx71 := x7.c1
    go_wp2_with fail
    ((with_reducible refine (C1.out.of hG hb).mono ?_); rintro e w2 ⟨rfl, hb2'⟩)
    clear qx40 qx41 qx50 qx51 qx60 qx61 qx70 qx71
    have hbA := below_alloc w2 (.cells #[.string ⟨u1.toArray⟩, .string ⟨u2.toArray⟩] 25)
    have x9 := FBox.new w2 (.string ⟨u1.toArray⟩) (.string ⟨u2.toArray⟩) 25
    have hb2 := bto hb2' hbA
    clear hb2' hbA
    replace x4 := x4.below hb2
    replace x5 := x5.below hb2
    replace x6 := x6.below hb2
    replace x7 := x7.below hb2
    replace hb := bto hb hb2
    clear hb2
    have qx40 := x4.c0
    have qx41 := x4.c1
    have qx90 := x9.c0
    have qx91 := x9.c1
    have qx50 := x5.c0
    have qx51 := x5.c1
    have qx70 := x7.c0
    have qx71 := x7.c1
    go_wp2_with fail
    ((with_reducible refine (C2.out.of hG hb).mono ?_); rintro e w3 ⟨rfl, hb3'⟩)
    clear qx40 qx41 qx90 qx91 qx50 qx51 qx70 qx71
    have hbA := below_alloc w3 (.cells #[.string ⟨([] : List UInt8).toArray⟩, .string ⟨([] : List UInt8).toArray⟩] 25)
    have x11 := FBox.new w3 (.string ⟨([] : List UInt8).toArray⟩) (.string ⟨([] : List UInt8).toArray⟩) 25
    have hb3 := bto hb3' hbA
    clear hb3' hbA
    replace x4 := x4.below hb3
    replace x5 := x5.below hb3
    replace x6 := x6.below hb3
    replace x7 := x7.below hb3
    replace x9 := x9.below hb3
    replace hb := bto hb hb3
    clear hb3
    have qx40 := x4.c0
    have qx41 := x4.c1
    have qx50 := x5.c0
    have qx51 := x5.c1
    have qx60 := x6.c0
    have qx61 := x6.c1
    go_wp2_with fail
    ((with_reducible refine (C3.out.of hG hb).mono ?_); rintro e w4 ⟨rfl, hb4'⟩)
    clear qx40 qx41 qx50 qx51 qx60 qx61
    have hbA := below_alloc w4 (.cells #[.string ⟨s.1.toArray⟩, .string ⟨s.2.toArray⟩] 25)
    have x13 := FBox.new w4 (.string ⟨s.1.toArray⟩) (.string ⟨s.2.toArray⟩) 25
    have hb4 := bto hb4' hbA
    clear hb4' hbA
    replace x4 := x4.below hb4
    replace x5 := x5.below hb4
    replace x6 := x6.below hb4
    replace x7 := x7.below hb4
    replace x9 := x9.below hb4
    replace x11 := x11.below hb4
    replace hb := bto hb hb4
    clear hb4
    have qx40 := x4.c0
    have qx41 := x4.c1
    have qx50 := x5.c0
    have qx51 := x5.c1
    have qx70 := x7.c0
    have qx71 := x7.c1
    go_wp2_with fail
    ((with_reducible refine (C4.out.of hG hb).mono ?_); rintro e w5 ⟨rfl, hb5'⟩)
    clear qx40 qx41 qx50 qx51 qx70 qx71
    have hbA := below_alloc w5 (.cells #[.string ⟨s.1.toArray⟩, .string ⟨s.2.toArray⟩] 25)
    have x15 := FBox.new w5 (.string ⟨s.1.toArray⟩) (.string ⟨s.2.toArray⟩) 25
    have hb5 := bto hb5' hbA
    clear hb5' hbA
    replace x4 := x4.below hb5
    replace x5 := x5.below hb5
    replace x6 := x6.below hb5
    replace x7 := x7.below hb5
    replace x9 := x9.below hb5
    replace x11 := x11.below hb5
    replace x13 := x13.below hb5
    replace hb := bto hb hb5
    clear hb5
    clear C1 C2 C3 C4
    have qx40 := x4.c0
    have qx41 := x4.c1
    have qx70 := x7.c0
    have qx71 := x7.c1
    have qx110 := x11.c0
    have qx111 := x11.c1
    have qx130 := x13.c0
    have qx131 := x13.c1
    have qx150 := x15.c0
    have qx151 := x15.c1
    go_wp2_with fail
    ((with_reducible refine (HAw.out.of hG hb).mono ?_); rintro e wz ⟨rfl, hbz⟩)
    replace hb := bto hb hbz
    clear hbz
    go_wp2
    go_ret
    exact ⟨rfl, hb⟩
  · rw [if_neg gy] at c2
    have c2 : Ret 29 #[(Value.agg #[Value.string ⟨List.toArray (s.1)⟩, Value.string ⟨List.toArray (s.2)⟩]), (Value.agg #[Value.string ⟨List.toArray u1⟩, Value.string ⟨List.toArray u2⟩]), (Value.agg #[Value.string ⟨List.toArray (d.1)⟩, Value.string ⟨List.toArray (d.2)⟩]), (Value.agg #[Value.string ⟨List.toArray (y.1)⟩, Value.string ⟨List.toArray (y.2)⟩])] (.tuple #[(Value.agg #[Value.string ⟨List.toArray (f.1)⟩, Value.string ⟨List.toArray (f.2)⟩]), .int .i64 0]) := by
      have h := c2
      dsimp only at h
      rw [← hcf.1, ← hcf.2] at h
      exact h
    have C2 := Lib.hid c2
    have hey : sameP y.1 y.2 [] [] = false := not_true_b (fun h => gy (hzc.2 (by simpa [sameP] using h)))
    rw [hey] at hEy
    clear c1 c2 c3 c4 gz ho hfi hQ bQ lQ hcs hcf hzc gy hey Ls Ld Lf Ly
    have qx40 := x4.c0
    have qx41 := x4.c1
    have qx50 := x5.c0
    have qx51 := x5.c1
    have qx60 := x6.c0
    have qx61 := x6.c1
    have qx70 := x7.c0
    have qx71 := x7.c1
    go_wp2_with fail
    ((with_reducible refine (C1.out.of hG hb).mono ?_); rintro e w2 ⟨rfl, hb2'⟩)
    clear qx40 qx41 qx50 qx51 qx60 qx61 qx70 qx71
    have hbA := below_alloc w2 (.cells #[.string ⟨u1.toArray⟩, .string ⟨u2.toArray⟩] 25)
    have x9 := FBox.new w2 (.string ⟨u1.toArray⟩) (.string ⟨u2.toArray⟩) 25
    have hb2 := bto hb2' hbA
    clear hb2' hbA
    replace x4 := x4.below hb2
    replace x5 := x5.below hb2
    replace x6 := x6.below hb2
    replace x7 := x7.below hb2
    replace hb := bto hb hb2
    clear hb2
    have qx40 := x4.c0
    have qx41 := x4.c1
    have qx90 := x9.c0
    have qx91 := x9.c1
    have qx50 := x5.c0
    have qx51 := x5.c1
    have qx70 := x7.c0
    have qx71 := x7.c1
    go_wp2_with fail
    ((with_reducible refine (C2.out.of hG hb).mono ?_); rintro e w3 ⟨rfl, hb3'⟩)
    clear qx40 qx41 qx90 qx91 qx50 qx51 qx70 qx71
    have hbA := below_alloc w3 (.cells #[.string ⟨f.1.toArray⟩, .string ⟨f.2.toArray⟩] 25)
    have x11 := FBox.new w3 (.string ⟨f.1.toArray⟩) (.string ⟨f.2.toArray⟩) 25
    have hb3 := bto hb3' hbA
    clear hb3' hbA
    replace x4 := x4.below hb3
    replace x5 := x5.below hb3
    replace x6 := x6.below hb3
    replace x7 := x7.below hb3
    replace x9 := x9.below hb3
    replace hb := bto hb hb3
    clear hb3
    have qx40 := x4.c0
    have qx41 := x4.c1
    have qx50 := x5.c0
    have qx51 := x5.c1
    have qx60 := x6.c0
    have qx61 := x6.c1
    go_wp2_with fail
    ((with_reducible refine (C3.out.of hG hb).mono ?_); rintro e w4 ⟨rfl, hb4'⟩)
    clear qx40 qx41 qx50 qx51 qx60 qx61
    have hbA := below_alloc w4 (.cells #[.string ⟨s.1.toArray⟩, .string ⟨s.2.toArray⟩] 25)
    have x13 := FBox.new w4 (.string ⟨s.1.toArray⟩) (.string ⟨s.2.toArray⟩) 25
    have hb4 := bto hb4' hbA
    clear hb4' hbA
    replace x4 := x4.below hb4
    replace x5 := x5.below hb4
    replace x6 := x6.below hb4
    replace x7 := x7.below hb4
    replace x9 := x9.below hb4
    replace x11 := x11.below hb4
    replace hb := bto hb hb4
    clear hb4
    have qx40 := x4.c0
    have qx41 := x4.c1
    have qx50 := x5.c0
    have qx51 := x5.c1
    have qx70 := x7.c0
    have qx71 := x7.c1
    go_wp2_with fail
    ((with_reducible refine (C4.out.of hG hb).mono ?_); rintro e w5 ⟨rfl, hb5'⟩)
    clear qx40 qx41 qx50 qx51 qx70 qx71
    have hbA := below_alloc w5 (.cells #[.string ⟨s.1.toArray⟩, .string ⟨s.2.toArray⟩] 25)
    have x15 := FBox.new w5 (.string ⟨s.1.toArray⟩) (.string ⟨s.2.toArray⟩) 25
    have hb5 := bto hb5' hbA
    clear hb5' hbA
    replace x4 := x4.below hb5
    replace x5 := x5.below hb5
    replace x6 := x6.below hb5
    replace x7 := x7.below hb5
    replace x9 := x9.below hb5
    replace x11 := x11.below hb5
    replace x13 := x13.below hb5
    replace hb := bto hb hb5
    clear hb5
    clear C1 C2 C3 C4
    have qx40 := x4.c0
    have qx41 := x4.c1
    have qx70 := x7.c0
    have qx71 := x7.c1
    have qx110 := x11.c0
    have qx111 := x11.c1
    have qx130 := x13.c0
    have qx131 := x13.c1
    have qx150 := x15.c0
    have qx151 := x15.c1
    have qx60 := x6.c0
    have qx61 := x6.c1
    go_wp2_with fail
    ((with_reducible refine (HAw.out.of hG hb).mono ?_); rintro e wz ⟨rfl, hbz⟩)
    replace hb := bto hb hbz
    clear hbz
    go_wp2
    go_ret
    exact ⟨rfl, hb⟩
theorem inverse_law' (s1 s2 d1 d2 f1 f2 y1 y2 : List UInt8) (w : World) (hG : Glob w) : Calls Tryz.prog 7 #[(Value.agg #[Value.string ⟨List.toArray s1⟩, Value.string ⟨List.toArray s2⟩]), (Value.agg #[Value.string ⟨List.toArray d1⟩, Value.string ⟨List.toArray d2⟩]), (Value.agg #[Value.string ⟨List.toArray f1⟩, Value.string ⟨List.toArray f2⟩]), (Value.agg #[Value.string ⟨List.toArray y1⟩, Value.string ⟨List.toArray y2⟩])] w fun e w' => e = .returned (.bool true) ∧ Below w.heap.size w w' := inverse_law (s1, s2) (d1, d2) (f1, f2) (y1, y2) w hG
end Go.Proofs.YtgnppdkeiihlfaaGreatDoor
