/- Package fraction: made, parts, Parts, New, Of, Neg, Check. -/
import Derived.Test.YtjhafnnfkaejgaaGreatDoorFraca
namespace Go.Proofs.YtjhafnnfkaejgaaGreatDoor
open Go.RowKit Num

/-- a box of two cells -/
structure FBox (W : World) (b : Nat) (u v : Value) : Prop where
  c0 : W.cell? ⟨b, 0, none⟩ = some u
  c1 : W.cell? ⟨b, 1, none⟩ = some v
  f0 : W.frozen? ⟨b, 0, none⟩ = false
  f1 : W.frozen? ⟨b, 1, none⟩ = false
  lt : b < W.heap.size
theorem FBox.new (W : World) (u v : Value) (t : TypeId) : FBox (W.alloc (.cells #[u, v] t)) W.heap.size u v := ⟨by simp [go_sem], by simp [go_sem], by simp [go_sem], by simp [go_sem], by simp⟩
theorem FBox.below {W W' : World} {b : Nat} {u v : Value} (h : FBox W b u v) (k : Below W.heap.size W W') : FBox W' b u v :=
  ⟨(k.cell (p := ⟨b, 0, none⟩) h.lt).trans h.c0, (k.cell (p := ⟨b, 1, none⟩) h.lt).trans h.c1, (k.frozen (p := ⟨b, 0, none⟩) h.lt).trans h.f0, (k.frozen (p := ⟨b, 1, none⟩) h.lt).trans h.f1, Nat.lt_of_lt_of_le h.lt k.size⟩
theorem FBox.set {W : World} {b : Nat} {u v : Value} (h : FBox W b u v) (x y : Value) : FBox ((W.setCell ⟨b, 0, none⟩ x).setCell ⟨b, 1, none⟩ y) b x y := by
  have c0 := h.c0; have c1 := h.c1; have f0 := h.f0; have f1 := h.f1; have lt := h.lt
  refine ⟨by simp [go_sem, c0], by simp [go_sem, c1], by simp [go_sem, f0], by simp [go_sem, f1], by simp [lt]⟩

set_option maxHeartbeats 1000000 in
set_option maxRecDepth 100000 in
theorem made_any (l l' : List UInt8) (w : World) (hl : l.length ≤ 1000000) (hl' : l'.length ≤ 1000000) (hG : Glob w) (h0 : val l' ≠ 0) :
    Calls Tryz.prog 51 #[.string ⟨l.toArray⟩, .string ⟨l'.toArray⟩] w fun e w' => e = .returned (Value.agg #[Value.string ⟨List.toArray (fN (Rat.divInt (val l) (val l')))⟩, Value.string ⟨List.toArray (fD (Rat.divInt (val l) (val l')))⟩]) ∧ Below w.heap.size w w' := by
  have hr : ∀ w : World, Glob w → _ := fun w hG => reduced_any l l' w hl hl' hG h0
  have hd := made_den (Rat.divInt (val l) (val l'))
  have hf : fD (Rat.divInt (val l) (val l')) = if (Rat.divInt (val l) (val l')).den = 1 then [] else canon ((Rat.divInt (val l) (val l')).den : Int) := rfl
  have hfn : fN (Rat.divInt (val l) (val l')) = canon (Rat.divInt (val l) (val l')).num := rfl
  rw [hf, hfn]
  obtain ⟨N, hN⟩ : ∃ N, N = canon (Rat.divInt (val l) (val l')).num := ⟨_, rfl⟩
  obtain ⟨D, hD⟩ : ∃ D, D = canon ((Rat.divInt (val l) (val l')).den : Int) := ⟨_, rfl⟩
  rw [← hN, ← hD]
  simp only [← hN, ← hD] at hr hd
  have HR := Lib.hid hr
  clear hr hf hfn hN hD h0
  by_cases h : (Rat.divInt (val l) (val l')).den = 1
  · rw [if_pos h]
    have hD1 := hd.2 h
    subst hD1
    clear hd h
    go_enter Tryz.func51, Tryz.ntmps51
    go_wp2_with fail
    ((with_reducible refine (HR.out _ (by exact hG.below (below_alloc _ _))).mono ?_); rintro e w1 ⟨rfl, hb1⟩)
    have hx := (FBox.new w (.string ⟨#[]⟩) (.string ⟨#[]⟩) 24).below hb1
    have c0 := hx.c0
    have c1 := hx.c1
    have f0 := hx.f0
    have f1 := hx.f1
    go_wp2_with fail
    have hy := hx.set (.string ⟨N.toArray⟩) (.string ⟨#[]⟩)
    have d0 := hy.c0
    have d1 := hy.c1
    refine bodyPost_ret (v := .agg #[.string ⟨N.toArray⟩, .string ⟨#[]⟩]) (by simp [results, Tryz.results51, go_sem, d0, d1]) rfl ?_
    exact ⟨rfl, below_set2 (bto (below_alloc _ _) hb1) (Nat.le_refl _) _ _⟩
  · rw [if_neg h]
    have h1 : (D == [49]) = false := by rw [beq_eq_false_iff_ne]; exact fun e => h (hd.1 e)
    clear hd h
    go_enter Tryz.func51, Tryz.ntmps51
    go_wp2_with fail
    ((with_reducible refine (HR.out _ (by exact hG.below (below_alloc _ _))).mono ?_); rintro e w1 ⟨rfl, hb1⟩)
    have hx := (FBox.new w (.string ⟨#[]⟩) (.string ⟨#[]⟩) 24).below hb1
    have c0 := hx.c0
    have c1 := hx.c1
    have f0 := hx.f0
    have f1 := hx.f1
    go_wp2_with fail
    have hy := hx.set (.string ⟨N.toArray⟩) (.string ⟨D.toArray⟩)
    have d0 := hy.c0
    have d1 := hy.c1
    refine bodyPost_ret (v := .agg #[.string ⟨N.toArray⟩, .string ⟨D.toArray⟩]) (by simp [results, Tryz.results51, go_sem, d0, d1]) rfl ?_
    exact ⟨rfl, below_set2 (bto (below_alloc _ _) hb1) (Nat.le_refl _) _ _⟩

/-- the denominator that parts returns -/
def pd (l' : List UInt8) : List UInt8 := if val l' = 0 then [49] else l'
theorem val_pd (l' : List UInt8) : val (pd l') = den1 (val l') := by
  unfold pd den1; split
  · decide
  · rfl
theorem pd_len {l' : List UInt8} {k : Nat} (h : l'.length ≤ k) (hk : 1 ≤ k) : (pd l').length ≤ k := by
  unfold pd; split
  · exact hk
  · exact h
set_option maxHeartbeats 1000000 in
set_option maxRecDepth 100000 in
theorem parts_any (l l' : List UInt8) (w : World) (hl' : l'.length ≤ 1000000) :
    Calls Tryz.prog 48 #[(Value.agg #[Value.string ⟨List.toArray l⟩, Value.string ⟨List.toArray l'⟩])] w fun e w' => e = .returned (.tuple #[.string ⟨l.toArray⟩, .string ⟨(pd l').toArray⟩]) ∧ Below w.heap.size w w' := by
  have hc := cmp0 (val l')
  unfold pd
  by_cases h : val l' = 0
  · rw [if_pos h]
    have hc : cmpZ (val l') (val []) = 0 := by rw [hc]; simp [h]
    have HC := Lib.hid hc
    clear hc h
    go_enter Tryz.func48, Tryz.ntmps48
    go_wp2_with fail
    ((with_reducible refine (icompare_any l' [] _ (Nat.le_trans hl' (by decide)) (by decide)).mono ?_); rintro e w1 ⟨rfl, hb1⟩)
    rw [HC.out]
    have hx := (FBox.new w (.string ⟨l.toArray⟩) (.string ⟨l'.toArray⟩) 24).below hb1
    have c0 := hx.c0
    have c1 := hx.c1
    go_wp2_with fail
    go_ret2
    exact ⟨rfl, bto (below_alloc _ _) hb1⟩
  · rw [if_neg h]
    obtain ⟨cz, hcz⟩ : ∃ cz, cz = cmpZ (val l') (val []) := ⟨_, rfl⟩
    have hc : (cz == 0) = false := by rw [hcz, hc]; by_cases h1 : val l' < 0 <;> simp [h1]; omega
    have HC := Lib.hid hcz
    clear hcz h
    go_enter Tryz.func48, Tryz.ntmps48
    go_wp2_with fail
    ((with_reducible refine (icompare_any l' [] _ (Nat.le_trans hl' (by decide)) (by decide)).mono ?_); rintro e w1 ⟨rfl, hb1⟩)
    rw [← HC.out]
    have hx := (FBox.new w (.string ⟨l.toArray⟩) (.string ⟨l'.toArray⟩) 24).below hb1
    have c0 := hx.c0
    have c1 := hx.c1
    go_wp2_with fail
    go_region_held3 (fun w' => w'.cell? ⟨w.heap.size, 0, none⟩ = some (.string ⟨l.toArray⟩) ∧ w'.cell? ⟨w.heap.size, 1, none⟩ = some (.string ⟨l'.toArray⟩))
      (first | go_keep | (dsimp only; exact ⟨c0, c1⟩)) (fail)
    go_wp2
    go_ret2
    exact ⟨rfl, bto (below_alloc _ _) (bto hb1 (bdr _))⟩
end Go.Proofs.YtjhafnnfkaejgaaGreatDoor
