/- The law ForwardRates. -/
import Derived.Test.YtgnppdkeiihlfaaGreatDoorF7
namespace Go.Proofs.YtgnppdkeiihlfaaGreatDoor
open Go.RowKit Num
set_option maxHeartbeats 8000000 in
set_option maxRecDepth 100000 in
theorem rates_law (s r d f y : Fp2) (w : World) (hG : Glob w) : Calls Tryz.prog 6 #[(Value.agg #[Value.string ⟨List.toArray (s.1)⟩, Value.string ⟨List.toArray (s.2)⟩]), (Value.agg #[Value.string ⟨List.toArray (r.1)⟩, Value.string ⟨List.toArray (r.2)⟩]), (Value.agg #[Value.string ⟨List.toArray (d.1)⟩, Value.string ⟨List.toArray (d.2)⟩]), (Value.agg #[Value.string ⟨List.toArray (f.1)⟩, Value.string ⟨List.toArray (f.2)⟩]), (Value.agg #[Value.string ⟨List.toArray (y.1)⟩, Value.string ⟨List.toArray (y.2)⟩])] w fun e w' => e = .returned (.bool true) ∧ Below w.heap.size w w' := by
  have HAw := Lib.hid wAwake12
  go_enter Tryz.func6, Tryz.ntmps6
  go_wp2_with fail
  refine (lLong _ [s, r, d, f, y] 5 5 _ rfl (by decide) (frAt_of (by first | (simp; done) | (simp; omega)) (fun i hi => by
    have hi : i = 0 ∨ i = 1 ∨ i = 2 ∨ i = 3 ∨ i = 4 := by simp at hi; omega
    rcases hi with rfl | rfl | rfl | rfl | rfl <;> simp [go_sem]))).mono ?_
  rintro e w1 ⟨rfl, hb1⟩
  have x5 : FBox w1 (w.heap.size) (.string ⟨s.1.toArray⟩) (.string ⟨s.2.toArray⟩) := FBox.below ⟨by simp [go_sem], by simp [go_sem], by simp [go_sem], by simp [go_sem], by first | (simp; done) | (simp; omega)⟩ hb1
  have x6 : FBox w1 (w.heap.size + 1) (.string ⟨r.1.toArray⟩) (.string ⟨r.2.toArray⟩) := FBox.below ⟨by simp [go_sem], by simp [go_sem], by simp [go_sem], by simp [go_sem], by first | (simp; done) | (simp; omega)⟩ hb1
  have x7 : FBox w1 (w.heap.size + 2) (.string ⟨d.1.toArray⟩) (.string ⟨d.2.toArray⟩) := FBox.below ⟨by simp [go_sem], by simp [go_sem], by simp [go_sem], by simp [go_sem], by first | (simp; done) | (simp; omega)⟩ hb1
  have x8 : FBox w1 (w.heap.size + 3) (.string ⟨f.1.toArray⟩) (.string ⟨f.2.toArray⟩) := FBox.below ⟨by simp [go_sem], by simp [go_sem], by simp [go_sem], by simp [go_sem], by first | (simp; done) | (simp; omega)⟩ hb1
  have x9 : FBox w1 (w.heap.size + 4) (.string ⟨y.1.toArray⟩) (.string ⟨y.2.toArray⟩) := FBox.below ⟨by simp [go_sem], by simp [go_sem], by simp [go_sem], by simp [go_sem], by first | (simp; done) | (simp; omega)⟩ hb1
  have hb : Below w.heap.size w w1 := bto (bto (bto (bto (bto (bto (below_alloc _ _) (below_alloc _ _)) (below_alloc _ _)) (below_alloc _ _)) (below_alloc _ _)) (below_alloc _ _)) hb1
  clear hb1
  by_cases gL : [s, r, d, f, y].any longF = true
  · rw [gL]
    clear gL
    go_wp2_with fail
    ((with_reducible refine (HAw.out.of hG hb).mono ?_); rintro e wz ⟨rfl, hbz⟩)
    replace hb := bto hb hbz
    clear hbz
    go_wp2
    go_ret
    exact ⟨rfl, hb⟩
  rw [not_true_b gL]
  have hL := not_true_b gL
  clear gL
  simp only [List.any_cons, List.any_nil, Bool.or_false, Bool.or_eq_false_iff] at hL
  have Ls := Lib.hid (longF_no hL.1)
  have Lr := Lib.hid (longF_no hL.2.1)
  have Ld := Lib.hid (longF_no hL.2.2.1)
  have Lf := Lib.hid (longF_no hL.2.2.2.1)
  have Ly := Lib.hid (longF_no hL.2.2.2.2)
  clear hL
  have c1 := fFair s d f y ⟨Nat.le_trans Ls.out.1 (by decide), Nat.le_trans Ls.out.2 (by decide)⟩ ⟨Nat.le_trans Ld.out.1 (by decide), Nat.le_trans Ld.out.2 (by decide)⟩ ⟨Nat.le_trans Lf.out.1 (by decide), Nat.le_trans Lf.out.2 (by decide)⟩ ⟨Nat.le_trans Ly.out.1 (by decide), Nat.le_trans Ly.out.2 (by decide)⟩
  have c2 := jFair s d f y ⟨Nat.le_trans Ls.out.1 (by decide), Nat.le_trans Ls.out.2 (by decide)⟩ ⟨Nat.le_trans Ld.out.1 (by decide), Nat.le_trans Ld.out.2 (by decide)⟩ ⟨Nat.le_trans Lf.out.1 (by decide), Nat.le_trans Lf.out.2 (by decide)⟩ ⟨Nat.le_trans Ly.out.1 (by decide), Nat.le_trans Ly.out.2 (by decide)⟩
  have c3 := fImplied s r d y ⟨Nat.le_trans Ls.out.1 (by decide), Nat.le_trans Ls.out.2 (by decide)⟩ ⟨Nat.le_trans Lr.out.1 (by decide), Nat.le_trans Lr.out.2 (by decide)⟩ ⟨Nat.le_trans Ld.out.1 (by decide), Nat.le_trans Ld.out.2 (by decide)⟩ ⟨Nat.le_trans Ly.out.1 (by decide), Nat.le_trans Ly.out.2 (by decide)⟩
  have c4 := jImplied s r d y ⟨Nat.le_trans Ls.out.1 (by decide), Nat.le_trans Ls.out.2 (by decide)⟩ ⟨Nat.le_trans Lr.out.1 (by decide), Nat.le_trans Lr.out.2 (by decide)⟩ ⟨Nat.le_trans Ld.out.1 (by decide), Nat.le_trans Ld.out.2 (by decide)⟩ ⟨Nat.le_trans Ly.out.1 (by decide), Nat.le_trans Ly.out.2 (by decide)⟩
  generalize fN (fairV s d f y).1 = u1 at *
  generalize fD (fairV s d f y).1 = u2 at *
  generalize (fairV s d f y).2 = z1 at *
  generalize fN (impV s r d y).1 = v1 at *
  generalize fD (impV s r d y).1 = v2 at *
  generalize (impV s r d y).2 = z2 at *
  have C1 := Lib.hid c1
  have C2 := Lib.hid c2
  have C3 := Lib.hid c3
  have C4 := Lib.hid c4
  have hE1 := fun (w : World) => eqP1 u1 u2 u1 u2 w
  have hE2 := fun (w : World) => eqP1 v1 v2 v1 v2 w
  simp only [sameP_self] at hE1 hE2
  have hEG := guardP
  clear c1 c2 c3 c4 Ls Lr Ld Lf Ly
  have qx50 := x5.c0
  have qx51 := x5.c1
  have qx70 := x7.c0
  have qx71 := x7.c1
  have qx80 := x8.c0
  have qx81 := x8.c1
  have qx90 := x9.c0
  have qx91 := x9.c1
  go_wp2_with fail
  ((with_reducible refine (C1.out.of hG hb).mono ?_); rintro e w2 ⟨rfl, hb2'⟩)
  clear qx50 qx51 qx70 qx71 qx80 qx81 qx90 qx91
  have hbA := below_alloc w2 (.cells #[.string ⟨u1.toArray⟩, .string ⟨u2.toArray⟩] 25)
  have x11 := FBox.new w2 (.string ⟨u1.toArray⟩) (.string ⟨u2.toArray⟩) 25
  have hb2 := bto hb2' hbA
  clear hb2' hbA
  replace x5 := x5.below hb2
  replace x6 := x6.below hb2
  replace x7 := x7.below hb2
  replace x8 := x8.below hb2
  replace x9 := x9.below hb2
  replace hb := bto hb hb2
  clear hb2
  have qx50 := x5.c0
  have qx51 := x5.c1
  have qx70 := x7.c0
  have qx71 := x7.c1
  have qx80 := x8.c0
  have qx81 := x8.c1
  have qx90 := x9.c0
  have qx91 := x9.c1
  go_wp2_with fail
  ((with_reducible refine (C2.out.of hG hb).mono ?_); rintro e w3 ⟨rfl, hb3'⟩)
  clear qx50 qx51 qx70 qx71 qx80 qx81 qx90 qx91
  have hbA := below_alloc w3 (.cells #[.string ⟨u1.toArray⟩, .string ⟨u2.toArray⟩] 25)
  have x13 := FBox.new w3 (.string ⟨u1.toArray⟩) (.string ⟨u2.toArray⟩) 25
  have hb3 := bto hb3' hbA
  clear hb3' hbA
  replace x5 := x5.below hb3
  replace x6 := x6.below hb3
  replace x7 := x7.below hb3
  replace x8 := x8.below hb3
  replace x9 := x9.below hb3
  replace x11 := x11.below hb3
  replace hb := bto hb hb3
  clear hb3
  have qx50 := x5.c0
  have qx51 := x5.c1
  have qx60 := x6.c0
  have qx61 := x6.c1
  have qx70 := x7.c0
  have qx71 := x7.c1
  have qx90 := x9.c0
  have qx91 := x9.c1
  go_wp2_with fail
  ((with_reducible refine (C3.out.of hG hb).mono ?_); rintro e w4 ⟨rfl, hb4'⟩)
  clear qx50 qx51 qx60 qx61 qx70 qx71 qx90 qx91
  have hbA := below_alloc w4 (.cells #[.string ⟨v1.toArray⟩, .string ⟨v2.toArray⟩] 25)
  have x15 := FBox.new w4 (.string ⟨v1.toArray⟩) (.string ⟨v2.toArray⟩) 25
  have hb4 := bto hb4' hbA
  clear hb4' hbA
  replace x5 := x5.below hb4
  replace x6 := x6.below hb4
  replace x7 := x7.below hb4
  replace x8 := x8.below hb4
  replace x9 := x9.below hb4
  replace x11 := x11.below hb4
  replace x13 := x13.below hb4
  replace hb := bto hb hb4
  clear hb4
  have qx50 := x5.c0
  have qx51 := x5.c1
  have qx60 := x6.c0
  have qx61 := x6.c1
  have qx70 := x7.c0
  have qx71 := x7.c1
  have qx90 := x9.c0
  have qx91 := x9.c1
  go_wp2_with fail
  ((with_reducible refine (C4.out.of hG hb).mono ?_); rintro e w5 ⟨rfl, hb5'⟩)
  clear qx50 qx51 qx60 qx61 qx70 qx71 qx90 qx91
  have hbA := below_alloc w5 (.cells #[.string ⟨v1.toArray⟩, .string ⟨v2.toArray⟩] 25)
  have x17 := FBox.new w5 (.string ⟨v1.toArray⟩) (.string ⟨v2.toArray⟩) 25
  have hb5 := bto hb5' hbA
  clear hb5' hbA
  replace x5 := x5.below hb5
  replace x6 := x6.below hb5
  replace x7 := x7.below hb5
  replace x8 := x8.below hb5
  replace x9 := x9.below hb5
  replace x11 := x11.below hb5
  replace x13 := x13.below hb5
  replace x15 := x15.below hb5
  replace hb := bto hb hb5
  clear hb5
  have qx110 := x11.c0
  have qx111 := x11.c1
  have qx130 := x13.c0
  have qx131 := x13.c1
  have qx150 := x15.c0
  have qx151 := x15.c1
  have qx170 := x17.c0
  have qx171 := x17.c1
  clear C1 C2 C3 C4
  go_wp2_with fail
  ((with_reducible refine (HAw.out.of hG hb).mono ?_); rintro e wz ⟨rfl, hbz⟩)
  replace hb := bto hb hbz
  clear hbz
  go_wp2
  go_ret
  exact ⟨rfl, hb⟩
theorem rates_law' (s1 s2 r1 r2 d1 d2 f1 f2 y1 y2 : List UInt8) (w : World) (hG : Glob w) : Calls Tryz.prog 6 #[(Value.agg #[Value.string ⟨List.toArray s1⟩, Value.string ⟨List.toArray s2⟩]), (Value.agg #[Value.string ⟨List.toArray r1⟩, Value.string ⟨List.toArray r2⟩]), (Value.agg #[Value.string ⟨List.toArray d1⟩, Value.string ⟨List.toArray d2⟩]), (Value.agg #[Value.string ⟨List.toArray f1⟩, Value.string ⟨List.toArray f2⟩]), (Value.agg #[Value.string ⟨List.toArray y1⟩, Value.string ⟨List.toArray y2⟩])] w fun e w' => e = .returned (.bool true) ∧ Below w.heap.size w w' := rates_law (s1, s2) (r1, r2) (d1, d2) (f1, f2) (y1, y2) w hG
end Go.Proofs.YtgnppdkeiihlfaaGreatDoor
