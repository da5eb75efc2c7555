/- Package fraction: Parts, New, Of, Neg, Check, Floor. -/
import Derived.Test.YtjhafnnfkaejgaaGreatDoorFracb
namespace Go.Proofs.YtjhafnnfkaejgaaGreatDoor
open Go.RowKit Num

theorem made_fv (l l' : List UInt8) (w : World) (hl : l.length ≤ 1000000) (hl' : l'.length ≤ 1000000) (hG : Glob w) :
    Calls Tryz.prog 51 #[.string ⟨l.toArray⟩, .string ⟨(pd l').toArray⟩] w fun e w' => e = .returned (Value.agg #[Value.string ⟨List.toArray (fN (fv l l'))⟩, Value.string ⟨List.toArray (fD (fv l l'))⟩]) ∧ Below w.heap.size w w' := by
  have := made_any l (pd l') w hl (pd_len hl' (by decide)) hG (by rw [val_pd]; exact den1_ne _)
  rw [val_pd] at this; exact this
theorem reduced_fv (l l' : List UInt8) (w : World) (hl : l.length ≤ 1000000) (hl' : l'.length ≤ 1000000) (hG : Glob w) :
    Calls Tryz.prog 47 #[.string ⟨l.toArray⟩, .string ⟨(pd l').toArray⟩] w fun e w' => e = .returned (.tuple #[.string ⟨(fN (fv l l')).toArray⟩, .string ⟨(canon ((fv l l').den : Int)).toArray⟩]) ∧ Below w.heap.size w w' := by
  have := reduced_any l (pd l') w hl (pd_len hl' (by decide)) hG (by rw [val_pd]; exact den1_ne _)
  rw [val_pd] at this; exact this

set_option maxHeartbeats 1000000 in
set_option maxRecDepth 100000 in
theorem Parts_any (l l' : List UInt8) (w : World) (hl : l.length ≤ 1000000) (hl' : l'.length ≤ 1000000) (hG : Glob w) :
    Calls Tryz.prog 14 #[(Value.agg #[Value.string ⟨List.toArray l⟩, Value.string ⟨List.toArray l'⟩])] w fun e w' => e = .returned (.tuple #[.string ⟨(fN (fv l l')).toArray⟩, .string ⟨(canon ((fv l l').den : Int)).toArray⟩]) ∧ Below w.heap.size w w' := by
  go_enter Tryz.func14, Tryz.ntmps14
  go_wp2_with fail
  ((with_reducible refine (parts_any l l' _ hl').mono ?_); rintro e w1 ⟨rfl, hb1⟩)
  have hb1 := bto (below_alloc _ _) hb1
  go_wp2_with fail
  ((with_reducible refine (reduced_fv l l' _ hl hl' (by exact hG.below hb1)).mono ?_); rintro e w2 ⟨rfl, hb2⟩)
  go_wp2
  go_ret2
  exact ⟨rfl, bto hb1 hb2⟩

set_option maxHeartbeats 1000000 in
set_option maxRecDepth 100000 in
theorem New_any (l l' : List UInt8) (w : World) (hl : l.length ≤ 1000000) (hl' : l'.length ≤ 1000000) (hG : Glob w) (h0 : val l' ≠ 0) :
    Calls Tryz.prog 16 #[.string ⟨l.toArray⟩, .string ⟨l'.toArray⟩] w fun e w' => e = .returned (.tuple #[(Value.agg #[Value.string ⟨List.toArray (fN (Rat.divInt (val l) (val l')))⟩, Value.string ⟨List.toArray (fD (Rat.divInt (val l) (val l')))⟩]), .int .i64 0]) ∧ Below w.heap.size w w' := by
  have hm : ∀ w : World, Glob w → _ := fun w hG => made_any l l' w hl hl' hG h0
  have hc := cmp0 (val l')
  obtain ⟨cz, hcz⟩ : ∃ cz, cz = cmpZ (val l') (val []) := ⟨_, rfl⟩
  have hc : (cz == 0) = false := by rw [hcz, hc]; by_cases h1 : val l' < 0 <;> simp [h1]; omega
  have HC := Lib.hid hcz
  obtain ⟨q, hq⟩ : ∃ q, q = Rat.divInt (val l) (val l') := ⟨_, rfl⟩
  simp only [← hq] at hm ⊢
  clear hcz h0 hq
  go_enter Tryz.func16, Tryz.ntmps16
  go_wp2_with fail
  ((with_reducible refine (icompare_any l' [] _ (Nat.le_trans hl' (by decide)) (by decide)).mono ?_); rintro e w1 ⟨rfl, hb1⟩)
  rw [← HC.out]
  have hx := (FBox.new w (.string ⟨#[]⟩) (.string ⟨#[]⟩) 24).below hb1
  have hb1 := bto (below_alloc _ _) hb1
  go_wp2_with fail
  ((with_reducible refine (hm _ (by exact hG.below hb1)).mono ?_); rintro e w2 ⟨rfl, hb2⟩)
  have hx := hx.below hb2
  have hb2 := bto hb1 hb2
  have c0 := hx.c0
  have c1 := hx.c1
  have f0 := hx.f0
  have f1 := hx.f1
  go_wp2_with fail
  have hy := hx.set (.string ⟨(fN q).toArray⟩) (.string ⟨(fD q).toArray⟩)
  have d0 := hy.c0
  have d1 := hy.c1
  refine bodyPost_ret (v := .tuple #[(Value.agg #[Value.string ⟨List.toArray (fN q)⟩, Value.string ⟨List.toArray (fD q)⟩]), .int .i64 0]) (by simp [results, Tryz.results16, go_sem, d0, d1]) rfl ?_
  exact ⟨rfl, below_set2 hb2 (Nat.le_refl _) _ _⟩

set_option maxHeartbeats 1000000 in
set_option maxRecDepth 100000 in
theorem New_zero (l l' : List UInt8) (w : World) (hl' : l'.length ≤ 1000000) (h0 : val l' = 0) :
    Calls Tryz.prog 16 #[.string ⟨l.toArray⟩, .string ⟨l'.toArray⟩] w fun e w' => e = .returned (.tuple #[.agg #[.string ⟨#[]⟩, .string ⟨#[]⟩], .int .i64 10]) ∧ Below w.heap.size w w' := by
  have hc := cmp0 (val l')
  have hc : cmpZ (val l') (val []) = 0 := by rw [hc]; simp [h0]
  have HC := Lib.hid hc
  clear hc h0
  go_enter Tryz.func16, Tryz.ntmps16
  go_wp2_with fail
  ((with_reducible refine (icompare_any l' [] _ (Nat.le_trans hl' (by decide)) (by decide)).mono ?_); rintro e w1 ⟨rfl, hb1⟩)
  rw [HC.out]
  have hx := (FBox.new w (.string ⟨#[]⟩) (.string ⟨#[]⟩) 24).below hb1
  have hb1 := bto (below_alloc _ _) hb1
  have c0 := hx.c0
  have c1 := hx.c1
  have f0 := hx.f0
  have f1 := hx.f1
  go_wp2_with fail
  have hy := hx.set (.string ⟨#[]⟩) (.string ⟨#[]⟩)
  have d0 := hy.c0
  have d1 := hy.c1
  refine bodyPost_ret (v := .tuple #[.agg #[.string ⟨#[]⟩, .string ⟨#[]⟩], .int .i64 10]) (by simp [results, Tryz.results16, go_sem, d0, d1]) rfl ?_
  exact ⟨rfl, below_set2 hb1 (Nat.le_refl _) _ _⟩

theorem fv_int (l : List UInt8) : Rat.divInt (val l) (val [49]) = (val l : Rat) := by
  have : val [49] = ((1 : Nat) : Int) := by decide
  rw [this]; exact (Rat.num_divInt_den ((val l : Rat)))
set_option maxHeartbeats 1000000 in
set_option maxRecDepth 100000 in
theorem Of_any (l : List UInt8) (w : World) (hl : l.length ≤ 1000000) (hG : Glob w) :
    Calls Tryz.prog 20 #[.string ⟨l.toArray⟩] w fun e w' => e = .returned (Value.agg #[Value.string ⟨List.toArray (fN ((val l : Rat)))⟩, Value.string ⟨List.toArray (fD ((val l : Rat)))⟩]) ∧ Below w.heap.size w w' := by
  have hm : ∀ w : World, Glob w → _ := fun w hG => made_any l [49] w hl (by decide) hG (by decide)
  obtain ⟨q, hq⟩ : ∃ q, q = (val l : Rat) := ⟨_, rfl⟩
  simp only [fv_int, ← hq] at hm
  rw [← hq]
  clear hq
  go_enter Tryz.func20, Tryz.ntmps20
  go_wp2_with fail
  ((with_reducible refine (hm _ (by exact hG.below (below_alloc _ _))).mono ?_); rintro e w2 ⟨rfl, hb2⟩)
  have hx := (FBox.new w (.string ⟨#[]⟩) (.string ⟨#[]⟩) 24).below hb2
  have hb2 := bto (below_alloc _ _) hb2
  have c0 := hx.c0
  have c1 := hx.c1
  have f0 := hx.f0
  have f1 := hx.f1
  go_wp2_with fail
  have hy := hx.set (.string ⟨(fN q).toArray⟩) (.string ⟨(fD q).toArray⟩)
  have d0 := hy.c0
  have d1 := hy.c1
  refine bodyPost_ret (v := (Value.agg #[Value.string ⟨List.toArray (fN q)⟩, Value.string ⟨List.toArray (fD q)⟩])) (by simp [results, Tryz.results20, go_sem, d0, d1]) rfl ?_
  exact ⟨rfl, below_set2 hb2 (Nat.le_refl _) _ _⟩

set_option maxHeartbeats 1000000 in
set_option maxRecDepth 100000 in
theorem Neg_any (l l' : List UInt8) (w : World) (hl : l.length ≤ 100000) (hl' : l'.length ≤ 100000) (hG : Glob w) :
    Calls Tryz.prog 33 #[(Value.agg #[Value.string ⟨List.toArray l⟩, Value.string ⟨List.toArray l'⟩])] w fun e w' => e = .returned (Value.agg #[Value.string ⟨List.toArray (fN (-fv l l'))⟩, Value.string ⟨List.toArray (fD (-fv l l'))⟩]) ∧ Below w.heap.size w w' := by
  have hnl : (canon (-val l)).length ≤ 1000000 := Nat.le_trans (canon_len_le _ l.length (by rw [Int.natAbs_neg]; exact val_lt l)) (by omega)
  have hm : ∀ w : World, Glob w → _ := fun w hG => made_fv (canon (-val l)) l' w hnl (Nat.le_trans hl' (by decide)) hG
  have hv : fv (canon (-val l)) l' = -fv l l' := by unfold fv; rw [val_canon, Rat.neg_divInt]
  obtain ⟨q, hq⟩ : ∃ q, q = -fv l l' := ⟨_, rfl⟩
  simp only [hv, ← hq] at hm
  rw [← hq]
  clear hq hv
  go_enter Tryz.func33, Tryz.ntmps33
  go_wp2_with fail
  ((with_reducible refine (parts_any l l' _ (Nat.le_trans hl' (by decide))).mono ?_); rintro e w1 ⟨rfl, hb1⟩)
  have hx := (FBox.new (w.alloc (.cells #[.string ⟨l.toArray⟩, .string ⟨l'.toArray⟩] 24)) (.string ⟨#[]⟩) (.string ⟨#[]⟩) 24).below hb1
  have hb1 := bto (bto (below_alloc w (.cells #[.string ⟨l.toArray⟩, .string ⟨l'.toArray⟩] 24)) (below_alloc _ _)) hb1
  rw [World.size_alloc] at hx
  go_wp2_with fail
  ((with_reducible refine (neg_any l _ (Nat.le_trans hl (by decide)) (by exact hG.below hb1)).mono ?_); rintro e w2 ⟨rfl, hb2⟩)
  have hx := hx.below hb2
  have hb2 := bto hb1 hb2
  go_wp2_with fail
  ((with_reducible refine (hm _ (by exact hG.below hb2)).mono ?_); rintro e w3 ⟨rfl, hb3⟩)
  have hx := hx.below hb3
  have hb3 := bto hb2 hb3
  have c0 := hx.c0
  have c1 := hx.c1
  have f0 := hx.f0
  have f1 := hx.f1
  go_wp2_with fail
  have hy := hx.set (.string ⟨(fN q).toArray⟩) (.string ⟨(fD q).toArray⟩)
  have d0 := hy.c0
  have d1 := hy.c1
  refine bodyPost_ret (v := (Value.agg #[Value.string ⟨List.toArray (fN q)⟩, Value.string ⟨List.toArray (fD q)⟩])) (by simp [results, Tryz.results33, go_sem, d0, d1]) rfl ?_
  exact ⟨rfl, below_set2 hb3 (Nat.le_add_right _ _) _ _⟩
end Go.Proofs.YtjhafnnfkaejgaaGreatDoor
