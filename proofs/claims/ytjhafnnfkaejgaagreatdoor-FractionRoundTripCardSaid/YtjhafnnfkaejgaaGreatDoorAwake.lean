/- The chapter's examples: awake. -/
import Derived.Test.YtjhafnnfkaejgaaGreatDoorFraci
namespace Go.Proofs.YtjhafnnfkaejgaaGreatDoor
open Go.RowKit Num

theorem aw1 (w : World) (hG : Glob w) : Calls Tryz.prog 16 #[.string ⟨#[49]⟩, .string ⟨#[50]⟩] w fun e w' => e = .returned (.tuple #[.agg #[.string ⟨#[49]⟩, .string ⟨#[50]⟩], .int .i64 0]) ∧ Below w.heap.size w w' := by
  have h := New_any [49] [50] w (by decide) (by decide) hG (by decide)
  have e1 : fN (Rat.divInt (val [49]) (val [50])) = [49] := by decide +kernel
  have e2 : fD (Rat.divInt (val [49]) (val [50])) = [50] := by decide +kernel
  rw [e1, e2] at h; exact h
theorem aw2 (w : World) (hG : Glob w) : Calls Tryz.prog 16 #[.string ⟨#[49]⟩, .string ⟨#[51]⟩] w fun e w' => e = .returned (.tuple #[.agg #[.string ⟨#[49]⟩, .string ⟨#[51]⟩], .int .i64 0]) ∧ Below w.heap.size w w' := by
  have h := New_any [49] [51] w (by decide) (by decide) hG (by decide)
  have e1 : fN (Rat.divInt (val [49]) (val [51])) = [49] := by decide +kernel
  have e2 : fD (Rat.divInt (val [49]) (val [51])) = [51] := by decide +kernel
  rw [e1, e2] at h; exact h
theorem aw3 (w : World) (hG : Glob w) : Calls Tryz.prog 30 #[.agg #[.string ⟨#[45, 50]⟩, .string ⟨#[51]⟩], .int .i64 (-3)] w fun e w' => e = .returned (.tuple #[.agg #[.string ⟨#[45, 50, 55]⟩, .string ⟨#[56]⟩], .int .i64 0]) ∧ Below w.heap.size w w' := by
  have h := Power_neg [45, 50] [51] 3 w (by decide) (by decide) (by decide) (by decide) (by decide +kernel) hG
  have e1 : fN ((fv [45, 50] [51]) ^ 3)⁻¹ = [45, 50, 55] := by decide +kernel
  have e2 : fD ((fv [45, 50] [51]) ^ 3)⁻¹ = [56] := by decide +kernel
  rw [e1, e2] at h; exact h
theorem aw4 (w : World) (hG : Glob w) : Calls Tryz.prog 27 #[.agg #[.string ⟨#[49]⟩, .string ⟨#[50]⟩], .agg #[.string ⟨#[49]⟩, .string ⟨#[51]⟩]] w fun e w' => e = .returned (.agg #[.string ⟨#[53]⟩, .string ⟨#[54]⟩]) ∧ Below w.heap.size w w' := by
  have h := Add_any [49] [50] [49] [51] w (by decide) (by decide) (by decide) (by decide) hG
  have e1 : fN (fv [49] [50] + fv [49] [51]) = [53] := by decide +kernel
  have e2 : fD (fv [49] [50] + fv [49] [51]) = [54] := by decide +kernel
  rw [e1, e2] at h; exact h
theorem aw5 (w : World) (hG : Glob w) : Calls Tryz.prog 24 #[.agg #[.string ⟨#[45, 55]⟩, .string ⟨#[50]⟩]] w fun e w' => e = .returned (.string ⟨#[45, 52]⟩) ∧ Below w.heap.size w w' := by
  have h := Floor_any [45, 55] [50] w (by decide) (by decide) hG
  have e1 : canon (divZ (val [45, 55]) (den1 (val [50]))) = [45, 52] := by decide +kernel
  rw [e1] at h; exact h
theorem aw6 (w : World) (hG : Glob w) : Calls Tryz.prog 45 #[.agg #[.string ⟨#[54]⟩, .string ⟨#[45, 52]⟩]] w fun e w' => e = .returned (.string ⟨#[45, 51, 47, 50]⟩) ∧ Below w.heap.size w w' := by
  have h := Print_any [54] [45, 52] w (by decide) (by decide) hG
  have e1 : printQ (fv [54] [45, 52]) = [45, 51, 47, 50] := by decide +kernel
  rw [e1] at h; exact h
theorem aw7 (w : World) (hG : Glob w) : Calls Tryz.prog 18 #[.agg #[.string ⟨#[50]⟩, .string ⟨#[52]⟩]] w fun e w' => e = .returned (.int .i64 1) ∧ Below w.heap.size w w' := by
  have h := Check_any [50] [52] w (by decide) (by decide) hG
  have e1 : ¬ ([50] = fN (fv [50] [52]) ∧ [52] = fD (fv [50] [52])) := by decide +kernel
  rw [if_neg e1] at h; exact h

set_option maxHeartbeats 2000000 in
set_option maxRecDepth 100000 in
theorem awake_any (w : World) (hG : Glob w) :
    Calls Tryz.prog 13 #[] w fun e w' => e = .returned (.bool true) ∧ Below w.heap.size w w' := by
  go_enter Tryz.func13, Tryz.ntmps13
  go_wp2_with fail
  ((with_reducible refine (aw1 _ (by exact hG)).mono ?_); rintro e w1 ⟨rfl, hb1⟩)
  have x1 := FBox.new w1 (.string ⟨#[49]⟩) (.string ⟨#[50]⟩) 24
  have hb := bto hb1 (below_alloc w1 (.cells #[.string ⟨#[49]⟩, .string ⟨#[50]⟩] 24))
  go_wp2_with fail
  ((with_reducible refine (aw2 _ (by exact hG.below hb)).mono ?_); rintro e w2 ⟨rfl, hb2⟩)
  have x1 := (x1.below hb2).below (below_alloc w2 (.cells #[.string ⟨#[49]⟩, .string ⟨#[51]⟩] 24))
  have x2 := FBox.new w2 (.string ⟨#[49]⟩) (.string ⟨#[51]⟩) 24
  have hb := bto (bto hb hb2) (below_alloc w2 (.cells #[.string ⟨#[49]⟩, .string ⟨#[51]⟩] 24))
  go_wp2_with fail
  ((with_reducible refine (aw3 _ (by exact hG.below hb)).mono ?_); rintro e w3 ⟨rfl, hb3⟩)
  have x1 := (x1.below hb3).below (below_alloc w3 (.cells #[.string ⟨#[45, 50, 55]⟩, .string ⟨#[56]⟩] 24))
  have x2 := (x2.below hb3).below (below_alloc w3 (.cells #[.string ⟨#[45, 50, 55]⟩, .string ⟨#[56]⟩] 24))
  have x3 := FBox.new w3 (.string ⟨#[45, 50, 55]⟩) (.string ⟨#[56]⟩) 24
  have hb := bto (bto hb hb3) (below_alloc w3 (.cells #[.string ⟨#[45, 50, 55]⟩, .string ⟨#[56]⟩] 24))
  have c0 := x1.c0
  have c1 := x1.c1
  have c2 := x2.c0
  have c3 := x2.c1
  go_wp2_with fail
  ((with_reducible refine (aw4 _ (by exact hG.below hb)).mono ?_); rintro e w4 ⟨rfl, hb4⟩)
  have hb := bto hb hb4
  have x3 := x3.below hb4
  have c4 := x3.c0
  have c5 := x3.c1
  go_wp2_with fail
  ((with_reducible refine (aw5 _ (by exact hG.below hb)).mono ?_); rintro e w5 ⟨rfl, hb5⟩)
  have hb := bto hb hb5
  go_wp2_with fail
  ((with_reducible refine (aw6 _ (by exact hG.below hb)).mono ?_); rintro e w6 ⟨rfl, hb6⟩)
  have hb := bto hb hb6
  go_wp2_with fail
  ((with_reducible refine (aw7 _ (by exact hG.below hb)).mono ?_); rintro e w7 ⟨rfl, hb7⟩)
  have hb := bto hb hb7
  go_wp2
  go_ret
  exact ⟨rfl, hb⟩
end Go.Proofs.YtjhafnnfkaejgaaGreatDoor
