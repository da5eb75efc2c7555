/- Bounds: package moneyweighted. -/
import Derived.Test.YtolbojchdlojnaaGreatDoorWj
namespace Go.Proofs.YtolbojchdlojnaaGreatDoor
open Go.RowKit Num
/-- what Bounds returns -/
def bndV (ps : List Pay) (p z : Int) : Value := if ¬ payE ps = 0 then .tuple #[.agg #[.string ⟨#[]⟩, .string ⟨#[]⟩], .agg #[.string ⟨#[]⟩, .string ⟨#[]⟩], .int .i64 1] else if p < 0 ∨ 12 < p then .tuple #[.agg #[.string ⟨#[]⟩, .string ⟨#[]⟩], .agg #[.string ⟨#[]⟩, .string ⟨#[]⟩], .int .i64 2] else if ¬ chN (sumsL 0 (pzs ps)) = 1 then .tuple #[.agg #[.string ⟨#[]⟩, .string ⟨#[]⟩], .agg #[.string ⟨#[]⟩, .string ⟨#[]⟩], .int .i64 25]
  else .tuple #[(Value.agg #[Value.string ⟨List.toArray (fN (Rat.divInt z ((10 ^ p.toNat : Nat) : Int)))⟩, Value.string ⟨List.toArray (fD (Rat.divInt z ((10 ^ p.toNat : Nat) : Int)))⟩]), (Value.agg #[Value.string ⟨List.toArray (fN (Rat.divInt (topZ (pzs ps) ((10 ^ p.toNat : Nat) : Int) z) ((10 ^ p.toNat : Nat) : Int)))⟩, Value.string ⟨List.toArray (fD (Rat.divInt (topZ (pzs ps) ((10 ^ p.toNat : Nat) : Int) z) ((10 ^ p.toNat : Nat) : Int)))⟩]), .int .i64 0]
/-- the sizes at which bounds are computed -/
structure BndOk (ps : List Pay) (p z : Int) (N : Nat) : Prop where
  root : Root (pzs ps) ((10 ^ p.toNat : Nat) : Int) z
  val : ∀ y, 1 ≤ y → y ≤ 2 * z + 2 → ValAt ps (Rat.divInt y ((10 ^ p.toNat : Nat) : Int))
  n : N ≤ 900
  len : (2 * z + 2).natAbs < 10 ^ N
theorem ten_u (p : Int) : val [49, 48] ^ p.toNat = ((10 ^ p.toNat : Nat) : Int) := by
  rw [show val [49, 48] = ((10 : Nat) : Int) by decide, ← Int.natCast_pow]
theorem u_pos (p : Int) : 0 < ((10 ^ p.toNat : Nat) : Int) := by have := Nat.pow_pos (a := 10) (n := p.toNat) (by decide); omega
theorem u_len {p : Int} (h : p ≤ 12) : (canon ((10 ^ p.toNat : Nat) : Int)).length ≤ 15 := by
  refine Nat.le_trans (canon_len_le _ 13 ?_) (by decide)
  rw [Int.natAbs_natCast]
  exact Nat.pow_lt_pow_right (by decide) (by omega)
set_option maxHeartbeats 2000000 in
set_option maxRecDepth 100000 in
theorem mwBounds_bad (A : Option Addr) (ps : List Pay) (n c : Nat) (p z : Int) (w : World) (hG : Glob w) (h : PL w A ps n) (hbad : ¬ payE ps = 0 ∨ (p < 0 ∨ 12 < p) ∨ ¬ chN (sumsL 0 (pzs ps)) = 1) :
    Calls Tryz.prog 14 #[.slice A n c, .int .i64 p] w fun e w' => e = .returned (bndV ps p z) ∧ Below w.heap.size w w' := by
  have C1 := Lib.hid (mwCheckB hG h c)
  have y2 : Blk (((w.alloc (.cells #[.slice A n c] 28)).alloc (.cells #[.string ⟨#[]⟩, .string ⟨#[]⟩] 30)).alloc (.cells #[.string ⟨#[]⟩, .string ⟨#[]⟩] 30)) w.heap.size #[.slice A n c] := ((Blk.new w _ 28).below (below_alloc _ (.cells #[.string ⟨#[]⟩, .string ⟨#[]⟩] 30))).below (below_alloc _ (.cells #[.string ⟨#[]⟩, .string ⟨#[]⟩] 30))
  have x4 := (FBox.new (w.alloc (.cells #[.slice A n c] 28)) (.string ⟨#[]⟩) (.string ⟨#[]⟩) 30).below (below_alloc _ (.cells #[.string ⟨#[]⟩, .string ⟨#[]⟩] 30))
  have x5 := FBox.new ((w.alloc (.cells #[.slice A n c] 28)).alloc (.cells #[.string ⟨#[]⟩, .string ⟨#[]⟩] 30)) (.string ⟨#[]⟩) (.string ⟨#[]⟩) 30
  have z4 := (Blk.new (w.alloc (.cells #[.slice A n c] 28)) #[.string ⟨#[]⟩, .string ⟨#[]⟩] 30).below (below_alloc _ (.cells #[.string ⟨#[]⟩, .string ⟨#[]⟩] 30))
  have hb := bto (below_alloc w (.cells #[.slice A n c] 28)) (bto (below_alloc _ (.cells #[.string ⟨#[]⟩, .string ⟨#[]⟩] 30)) (below_alloc _ (.cells #[.string ⟨#[]⟩, .string ⟨#[]⟩] 30)))
  simp only [World.size_alloc] at x4 x5
  clear z4
  have q2 : (((w.alloc (.cells #[.slice A n c] 28)).alloc (.cells #[.string ⟨#[]⟩, .string ⟨#[]⟩] 30)).alloc (.cells #[.string ⟨#[]⟩, .string ⟨#[]⟩] 30)).cell? ⟨w.heap.size, 0, none⟩ = some (.slice A n c) := y2.c 0
  by_cases g : payE ps = 0
  rotate_left
  · have HV : Hid (bndV ps p z = .tuple #[.agg #[.string ⟨#[]⟩, .string ⟨#[]⟩], .agg #[.string ⟨#[]⟩, .string ⟨#[]⟩], .int .i64 1]) := if_pos g
    have e1 : (payE ps != 0) = true := bneq' (intbne g)
    generalize payE ps = E at *
    clear g h hbad
    go_enter Tryz.func14, Tryz.ntmps14
    go_wp2_with fail
    ((with_reducible refine (C1.out.of hG hb).mono ?_); rintro e w1 ⟨rfl, hb1⟩)
    replace x4 := x4.below hb1
    replace x5 := x5.below hb1
    replace hb := bto hb hb1
    clear hb1
    clear q2
    have g0 := x4.c0
    have g1 := x4.c1
    have g2 := x4.f0
    have g3 := x4.f1
    have k0 := x5.c0
    have k1 := x5.c1
    have k2 := x5.f0
    have k3 := x5.f1
    have hn45 : w.heap.size + 1 ≠ w.heap.size + 1 + 1 := by omega
    go_wp2
    have hy4 := (x4.set (.string ⟨#[]⟩) (.string ⟨#[]⟩)).setNe hn45 (.string ⟨#[]⟩) (.string ⟨#[]⟩)
    have hy5 := (x5.setNe (Ne.symm hn45) (.string ⟨#[]⟩) (.string ⟨#[]⟩)).set (.string ⟨#[]⟩) (.string ⟨#[]⟩)
    have d0 := hy4.c0
    have d1 := hy4.c1
    have d2 := hy5.c0
    have d3 := hy5.c1
    refine bodyPost_ret (v := .tuple #[.agg #[.string ⟨#[]⟩, .string ⟨#[]⟩], .agg #[.string ⟨#[]⟩, .string ⟨#[]⟩], .int .i64 1]) (by simp [results, Tryz.results14, go_sem, d0, d1, d2, d3]) rfl ?_
    exact ⟨by rw [HV.out], below_set2 (b := w.heap.size + 1 + 1) (below_set2 (b := w.heap.size + 1) hb (by omega) _ _) (by omega) _ _⟩
  rw [g] at C1
  by_cases gp : p < 0 ∨ 12 < p
  · have HV : Hid (bndV ps p z = .tuple #[.agg #[.string ⟨#[]⟩, .string ⟨#[]⟩], .agg #[.string ⟨#[]⟩, .string ⟨#[]⟩], .int .i64 2]) := by show _ = _; unfold bndV; rw [if_neg (fun h => h g), if_pos gp]
    clear g h hbad
    by_cases g0 : p < 0
    · have e1 : decide (p < 0) = true := decide_eq_true g0
      clear g0 gp
      go_enter Tryz.func14, Tryz.ntmps14
      go_wp2_with fail
      ((with_reducible refine (C1.out.of hG hb).mono ?_); rintro e w1 ⟨rfl, hb1⟩)
      replace x4 := x4.below hb1
      replace x5 := x5.below hb1
      replace hb := bto hb hb1
      clear hb1
      clear q2
      have g0 := x4.c0
      have g1 := x4.c1
      have g2 := x4.f0
      have g3 := x4.f1
      have k0 := x5.c0
      have k1 := x5.c1
      have k2 := x5.f0
      have k3 := x5.f1
      have hn45 : w.heap.size + 1 ≠ w.heap.size + 1 + 1 := by omega
      go_wp2
      have hy4 := (x4.set (.string ⟨#[]⟩) (.string ⟨#[]⟩)).setNe hn45 (.string ⟨#[]⟩) (.string ⟨#[]⟩)
      have hy5 := (x5.setNe (Ne.symm hn45) (.string ⟨#[]⟩) (.string ⟨#[]⟩)).set (.string ⟨#[]⟩) (.string ⟨#[]⟩)
      have d0 := hy4.c0
      have d1 := hy4.c1
      have d2 := hy5.c0
      have d3 := hy5.c1
      refine bodyPost_ret (v := .tuple #[.agg #[.string ⟨#[]⟩, .string ⟨#[]⟩], .agg #[.string ⟨#[]⟩, .string ⟨#[]⟩], .int .i64 2]) (by simp [results, Tryz.results14, go_sem, d0, d1, d2, d3]) rfl ?_
      exact ⟨by rw [HV.out], below_set2 (b := w.heap.size + 1 + 1) (below_set2 (b := w.heap.size + 1) hb (by omega) _ _) (by omega) _ _⟩
    · have e1 : decide (p < 0) = false := decide_eq_false g0
      have e2 : decide (12 < p) = true := decide_eq_true (by omega)
      clear g0 gp
      go_enter Tryz.func14, Tryz.ntmps14
      go_wp2_with fail
      ((with_reducible refine (C1.out.of hG hb).mono ?_); rintro e w1 ⟨rfl, hb1⟩)
      replace x4 := x4.below hb1
      replace x5 := x5.below hb1
      replace hb := bto hb hb1
      clear hb1
      clear q2
      have g0 := x4.c0
      have g1 := x4.c1
      have g2 := x4.f0
      have g3 := x4.f1
      have k0 := x5.c0
      have k1 := x5.c1
      have k2 := x5.f0
      have k3 := x5.f1
      have hn45 : w.heap.size + 1 ≠ w.heap.size + 1 + 1 := by omega
      go_wp2
      have hy4 := (x4.set (.string ⟨#[]⟩) (.string ⟨#[]⟩)).setNe hn45 (.string ⟨#[]⟩) (.string ⟨#[]⟩)
      have hy5 := (x5.setNe (Ne.symm hn45) (.string ⟨#[]⟩) (.string ⟨#[]⟩)).set (.string ⟨#[]⟩) (.string ⟨#[]⟩)
      have d0 := hy4.c0
      have d1 := hy4.c1
      have d2 := hy5.c0
      have d3 := hy5.c1
      refine bodyPost_ret (v := .tuple #[.agg #[.string ⟨#[]⟩, .string ⟨#[]⟩], .agg #[.string ⟨#[]⟩, .string ⟨#[]⟩], .int .i64 2]) (by simp [results, Tryz.results14, go_sem, d0, d1, d2, d3]) rfl ?_
      exact ⟨by rw [HV.out], below_set2 (b := w.heap.size + 1 + 1) (below_set2 (b := w.heap.size + 1) hb (by omega) _ _) (by omega) _ _⟩
  have gc : ¬ chN (sumsL 0 (pzs ps)) = 1 := by rcases hbad with h | h | h; exact absurd g h; exact absurd h gp; exact h
  have HV : Hid (bndV ps p z = .tuple #[.agg #[.string ⟨#[]⟩, .string ⟨#[]⟩], .agg #[.string ⟨#[]⟩, .string ⟨#[]⟩], .int .i64 25]) := by show _ = _; unfold bndV; rw [if_neg (fun h => h g), if_neg gp, if_pos gc]
  have C2 := Lib.hid (mwSignsB hG h c)
  have e1 : decide (p < 0) = false := decide_eq_false (by omega)
  have e2 : decide (12 < p) = false := decide_eq_false (by omega)
  have e3 : ((chN (sumsL 0 (pzs ps)) : Int) != 1) = true := bneq' (intbne (by omega))
  generalize ((chN (sumsL 0 (pzs ps)) : Nat) : Int) = ch at *
  generalize sg1 (sumsL 0 (pzs ps)) = s at *
  clear g gp gc h hbad
  go_enter Tryz.func14, Tryz.ntmps14
  go_wp2_with fail
  ((with_reducible refine (C1.out.of hG hb).mono ?_); rintro e w1 ⟨rfl, hb1⟩)
  replace x4 := x4.below hb1
  replace x5 := x5.below hb1
  replace y2 := y2.below hb1
  replace hb := bto hb hb1
  clear hb1
  replace q2 : w1.cell? ⟨w.heap.size, 0, none⟩ = some (.slice A n c) := y2.c 0
  go_wp2_with fail
  ((with_reducible refine (C2.out.of hG hb).mono ?_); rintro e w2 ⟨rfl, hb2⟩)
  replace x4 := x4.below hb2
  replace x5 := x5.below hb2
  replace hb := bto hb hb2
  clear hb2
  have hbA := below_alloc w2 (.cells #[.int .i64 s] 3)
  replace x4 := x4.below hbA
  replace x5 := x5.below hbA
  replace hb := bto hb hbA
  clear q2 y2 hbA
  have g0 := x4.c0
  have g1 := x4.c1
  have g2 := x4.f0
  have g3 := x4.f1
  have k0 := x5.c0
  have k1 := x5.c1
  have k2 := x5.f0
  have k3 := x5.f1
  have hn45 : w.heap.size + 1 ≠ w.heap.size + 1 + 1 := by omega
  go_wp2
  have hy4 := (x4.set (.string ⟨#[]⟩) (.string ⟨#[]⟩)).setNe hn45 (.string ⟨#[]⟩) (.string ⟨#[]⟩)
  have hy5 := (x5.setNe (Ne.symm hn45) (.string ⟨#[]⟩) (.string ⟨#[]⟩)).set (.string ⟨#[]⟩) (.string ⟨#[]⟩)
  have d0 := hy4.c0
  have d1 := hy4.c1
  have d2 := hy5.c0
  have d3 := hy5.c1
  refine bodyPost_ret (v := .tuple #[.agg #[.string ⟨#[]⟩, .string ⟨#[]⟩], .agg #[.string ⟨#[]⟩, .string ⟨#[]⟩], .int .i64 25]) (by simp [results, Tryz.results14, go_sem, d0, d1, d2, d3]) rfl ?_
  exact ⟨by rw [HV.out], below_set2 (b := w.heap.size + 1 + 1) (below_set2 (b := w.heap.size + 1) hb (by omega) _ _) (by omega) _ _⟩
set_option maxHeartbeats 8000000 in
set_option maxRecDepth 100000 in
theorem mwBounds_ok (A : Option Addr) (ps : List Pay) (n c : Nat) (p z : Int) (N : Nat) (w : World) (hG : Glob w) (h : PL w A ps n) (g : payE ps = 0) (g0 : 0 ≤ p) (g12 : p ≤ 12) (gc : chN (sumsL 0 (pzs ps)) = 1) (hB : BndOk ps p z N) :
    Calls Tryz.prog 14 #[.slice A n c, .int .i64 p] w fun e w' => e = .returned (bndV ps p z) ∧ Below w.heap.size w w' := by
  have C1 := Lib.hid (mwCheckB hG h c)
  rw [g] at C1
  have C2 := Lib.hid (mwSignsB hG h c)
  rw [gc] at C2
  have y2 : Blk (((w.alloc (.cells #[.slice A n c] 28)).alloc (.cells #[.string ⟨#[]⟩, .string ⟨#[]⟩] 30)).alloc (.cells #[.string ⟨#[]⟩, .string ⟨#[]⟩] 30)) w.heap.size #[.slice A n c] := ((Blk.new w _ 28).below (below_alloc _ (.cells #[.string ⟨#[]⟩, .string ⟨#[]⟩] 30))).below (below_alloc _ (.cells #[.string ⟨#[]⟩, .string ⟨#[]⟩] 30))
  have x4 := (FBox.new (w.alloc (.cells #[.slice A n c] 28)) (.string ⟨#[]⟩) (.string ⟨#[]⟩) 30).below (below_alloc _ (.cells #[.string ⟨#[]⟩, .string ⟨#[]⟩] 30))
  have x5 := FBox.new ((w.alloc (.cells #[.slice A n c] 28)).alloc (.cells #[.string ⟨#[]⟩, .string ⟨#[]⟩] 30)) (.string ⟨#[]⟩) (.string ⟨#[]⟩) 30
  have z4 := (Blk.new (w.alloc (.cells #[.slice A n c] 28)) #[.string ⟨#[]⟩, .string ⟨#[]⟩] 30).below (below_alloc _ (.cells #[.string ⟨#[]⟩, .string ⟨#[]⟩] 30))
  have hb := bto (below_alloc w (.cells #[.slice A n c] 28)) (bto (below_alloc _ (.cells #[.string ⟨#[]⟩, .string ⟨#[]⟩] 30)) (below_alloc _ (.cells #[.string ⟨#[]⟩, .string ⟨#[]⟩] 30)))
  simp only [World.size_alloc] at x4 x5
  clear z4
  have q2 : (((w.alloc (.cells #[.slice A n c] 28)).alloc (.cells #[.string ⟨#[]⟩, .string ⟨#[]⟩] 30)).alloc (.cells #[.string ⟨#[]⟩, .string ⟨#[]⟩] 30)).cell? ⟨w.heap.size, 0, none⟩ = some (.slice A n c) := y2.c 0
  have z4 : (((w.alloc (.cells #[.slice A n c] 28)).alloc (.cells #[.string ⟨#[]⟩, .string ⟨#[]⟩] 30)).alloc (.cells #[.string ⟨#[]⟩, .string ⟨#[]⟩] 30)).heap[w.heap.size + 1]? = some (.cells #[.string ⟨#[]⟩, .string ⟨#[]⟩] 30) := by
    have h1 := (below_alloc ((w.alloc (.cells #[.slice A n c] 28)).alloc (.cells #[.string ⟨#[]⟩, .string ⟨#[]⟩] 30)) (.cells #[.string ⟨#[]⟩, .string ⟨#[]⟩] 30)).block (w.heap.size + 1) (by simp only [World.size_alloc]; omega)
    have h2 := heap_alloc_new (w.alloc (.cells #[.slice A n c] 28)) (.cells #[.string ⟨#[]⟩, .string ⟨#[]⟩] 30)
    rw [World.size_alloc] at h2
    exact h1.trans h2
  have z5 : (((w.alloc (.cells #[.slice A n c] 28)).alloc (.cells #[.string ⟨#[]⟩, .string ⟨#[]⟩] 30)).alloc (.cells #[.string ⟨#[]⟩, .string ⟨#[]⟩] 30)).heap[w.heap.size + 1 + 1]? = some (.cells #[.string ⟨#[]⟩, .string ⟨#[]⟩] 30) := by
    have h2 := heap_alloc_new ((w.alloc (.cells #[.slice A n c] 28)).alloc (.cells #[.string ⟨#[]⟩, .string ⟨#[]⟩] 30)) (.cells #[.string ⟨#[]⟩, .string ⟨#[]⟩] 30)
    simp only [World.size_alloc] at h2
    exact h2
  clear x4 x5
  have e1 : decide (p < 0) = false := decide_eq_false (by omega)
  have e2 : decide (12 < p) = false := decide_eq_false (by omega)
  have hs := sg1_cases gc
  have HV0 : Hid (bndV ps p z = .tuple #[(Value.agg #[Value.string ⟨List.toArray (fN (Rat.divInt z ((10 ^ p.toNat : Nat) : Int)))⟩, Value.string ⟨List.toArray (fD (Rat.divInt z ((10 ^ p.toNat : Nat) : Int)))⟩]), (Value.agg #[Value.string ⟨List.toArray (fN (Rat.divInt (topZ (pzs ps) ((10 ^ p.toNat : Nat) : Int) z) ((10 ^ p.toNat : Nat) : Int)))⟩, Value.string ⟨List.toArray (fD (Rat.divInt (topZ (pzs ps) ((10 ^ p.toNat : Nat) : Int) z) ((10 ^ p.toNat : Nat) : Int)))⟩]), .int .i64 0]) := by show _ = _; unfold bndV; rw [if_neg (fun h => h g), if_neg (by omega), if_neg (fun h => h gc)]
  have C3 := Lib.hid (niPower (l := [49, 48]) (by decide) (n := p.toNat) (by omega) (ten_u p))
  rw [show ((p.toNat : Nat) : Int) = p by omega] at C3
  have hu0 := u_pos p
  have hul := u_len g12
  have HR := Lib.hid hB.root.iff
  have HVl := Lib.hid hB.val
  have HLn : Hid (∀ y, 0 ≤ y → y ≤ 2 * z + 2 → (canon y).length ≤ 9001) := fun y h1 h2 => len_of (N := N) (by have := hB.len; omega) (by have := hB.n; omega)
  have hzz := hB.root.nn
  have hN9 := hB.n
  have hNl := hB.len
  have HTop : Hid (topZ (pzs ps) ((10 ^ p.toNat : Nat) : Int) z = if placeQ (sg1 (sumsL 0 (pzs ps))) (pzs ps) (Rat.divInt z ((10 ^ p.toNat : Nat) : Int)) = 0 then z else z + 1) := rfl
  generalize topZ (pzs ps) ((10 ^ p.toNat : Nat) : Int) z = top at *
  generalize ((10 ^ p.toNat : Nat) : Int) = u at *
  generalize sg1 (sumsL 0 (pzs ps)) = s at *
  clear g gc hB g0 g12
  go_enter Tryz.func14, Tryz.ntmps14
  go_wp2_with fail
  ((with_reducible refine (C1.out.of hG hb).mono ?_); rintro e w1 ⟨rfl, hb1⟩)
  replace y2 := y2.below hb1
  replace z4 := (hb1.block _ (by simp only [World.size_alloc]; omega)).trans z4
  replace z5 := (hb1.block _ (by simp only [World.size_alloc]; omega)).trans z5
  replace hb := bto hb hb1
  replace q2 : w1.cell? ⟨w.heap.size, 0, none⟩ = some (.slice A n c) := y2.c 0
  clear hb1 C1
  go_wp2_with fail
  ((with_reducible refine (C2.out.of hG hb).mono ?_); rintro e w2 ⟨rfl, hb2⟩)
  have hbA := below_alloc w2 (.cells #[.int .i64 s] 3)
  have y8 := Blk.new w2 #[.int .i64 s] 3
  have hlt4 := (Array.getElem?_eq_some_iff.1 z4).1
  have hlt5 := (Array.getElem?_eq_some_iff.1 z5).1
  have hsz2 := hb2.size
  replace y2 := (y2.below hb2).below hbA
  replace z4 := ((bto hb2 hbA).block _ hlt4).trans z4
  replace z5 := ((bto hb2 hbA).block _ hlt5).trans z5
  replace hb := bto hb (bto hb2 hbA)
  have hne8 : ¬ (w2.heap.size = w.heap.size + 1 ∨ w2.heap.size = w.heap.size + 1 + 1) := by omega
  clear hb2 hbA C2 q2
  go_wp2_with fail
  obtain ⟨w2b, hw2b⟩ : ∃ w2b, w2b = w2.alloc (.cells #[.int .i64 s] 3) := ⟨_, rfl⟩
  rw [← hw2b] at y2 z4 z5 hb y8
  (try rw [← hw2b])
  have hs2b : w2.heap.size < w2b.heap.size := by rw [hw2b]; simp
  clear hw2b
  ((with_reducible refine (C3.out.of hG hb).mono ?_); rintro e w3 ⟨rfl, hb3⟩)
  have hbA := below_alloc w3 (.cells #[.string ⟨(canon u).toArray⟩] 23)
  have y9 := Blk.new w3 #[.string ⟨(canon u).toArray⟩] 23
  have hsz3 := hb3.size
  obtain ⟨w4, hw4⟩ : ∃ w4, w4 = w3.alloc (.cells #[.string ⟨(canon u).toArray⟩] 23) := ⟨_, rfl⟩
  have hs4 : w4.heap.size = w3.heap.size + 1 := by rw [hw4]; simp
  rw [← hw4] at hbA y9
  have hbB := below_alloc w4 (.cells #[.func (Fn.func 65) #[] #[.pointer (some ⟨w3.heap.size, 0, none⟩)]] 58)
  have y11 := Blk.new w4 #[.func (Fn.func 65) #[] #[.pointer (some ⟨w3.heap.size, 0, none⟩)]] 58
  have hb34 := bto hb3 (bto hbA hbB)
  have z4l := (Array.getElem?_eq_some_iff.1 z4).1
  have z5l := (Array.getElem?_eq_some_iff.1 z5).1
  replace y2 := y2.below hb34
  replace y8 := y8.below hb34
  replace y9 := y9.below hbB
  replace z4 := (hb34.block _ z4l).trans z4
  replace z5 := (hb34.block _ z5l).trans z5
  replace hb := bto hb hb34
  have hne9 : ¬ (w3.heap.size = w.heap.size + 1 ∨ w3.heap.size = w.heap.size + 1 + 1) := by omega
  have hne11 : ¬ (w4.heap.size = w.heap.size + 1 ∨ w4.heap.size = w.heap.size + 1 + 1) := by omega
  have hne2 : ¬ (w.heap.size = w.heap.size + 1 ∨ w.heap.size = w.heap.size + 1 + 1) := by omega
  clear hb3 hbA hbB hb34 C3 z4l z5l
  go_wp2_with fail
  rw [← hw4]
  clear hw4
  rw [hs4] at y11 hne11
  obtain ⟨w5, hw5⟩ : ∃ w5, w5 = w4.alloc (.cells #[.func (Fn.func 65) #[] #[.pointer (some ⟨w3.heap.size, 0, none⟩)]] 58) := ⟨_, rfl⟩
  rw [← hw5] at y2 y8 y9 y11 z4 z5 hb ⊢
  clear hw5
  have C4 := Lib.hid (mwGreatest w.heap.size w2.heap.size (w3.heap.size + 1) (fun y => decide (placeQ s (pzs ps) (Rat.divInt y u) ≤ 0)) z N w5 (hG.below hb) hzz (by omega) hNl (fun y hy => by rw [decide_eq_true_iff]; exact HR.out y hy)
    (fun y h1 h2 => mwIs c w.heap.size w2.heap.size (w3.heap.size + 1) w3.heap.size w5 (hG.below hb) (h.below hb) hs (HVl.out y h1 h2) (by have := HLn.out y (by omega) h2; omega) (by omega) (by omega) y2 y8 y11 y9 rfl))
  ((with_reducible refine C4.out.mono ?_); rintro e w6 ⟨rfl, hb6⟩)
  have z4l := (Array.getElem?_eq_some_iff.1 z4).1
  have z5l := (Array.getElem?_eq_some_iff.1 z5).1
  replace y2 := y2.below hb6
  replace y8 := y8.below hb6
  replace y9 := y9.below hb6
  replace y11 := y11.below hb6
  replace z4 := (hb6.block _ z4l).trans z4
  replace z5 := (hb6.block _ z5l).trans z5
  replace hb := bto hb hb6
  clear hb6 C4 z4l z5l
  have hzl := HLn.out z hzz (by omega)
  have CA : Hid (∀ w', Below w6.heap.size w6 w' → Calls Tryz.prog 65 #[.string ⟨(canon z).toArray⟩, .pointer (some ⟨w3.heap.size, 0, none⟩)] w' fun e w2 => e = .returned (Value.agg #[Value.string ⟨List.toArray (fN (Rat.divInt z u))⟩, Value.string ⟨List.toArray (fD (Rat.divInt z u))⟩]) ∧ Below w'.heap.size w' w2) := fun w' hw => mwAt z u w3.heap.size w' ((hG.below hb).below hw) (by omega) (by omega) (by omega) (y9.below hw)
  have C5 := Lib.hid (mwPlace (hG.below hb) (h.below hb) hs (q := Rat.divInt z u) (fun hne => HVl.out z (by
    by_cases h0 : z = 0
    · exact absurd (by rw [h0]; exact divInt_zero' u) hne
    · omega) (by omega)) c)
  obtain ⟨P, hP⟩ : ∃ P, P = placeQ s (pzs ps) (Rat.divInt z u) := ⟨_, rfl⟩
  rw [← hP] at C5 HTop
  obtain ⟨qz, hqz⟩ : ∃ qz, qz = Rat.divInt z u := ⟨_, rfl⟩
  rw [← hqz] at CA C5 HV0
  have CB : Hid (∀ y, (canon y).length ≤ 1000000 → ∀ w' w7, Below w6.heap.size w6 w7 → BelowX (fun k => k = w.heap.size + 1 ∨ k = w.heap.size + 1 + 1) w7 w' → Calls Tryz.prog 65 #[.string ⟨(canon y).toArray⟩, .pointer (some ⟨w3.heap.size, 0, none⟩)] w' fun e w2 => e = .returned (Value.agg #[Value.string ⟨List.toArray (fN (Rat.divInt y u))⟩, Value.string ⟨List.toArray (fD (Rat.divInt y u))⟩]) ∧ Below w'.heap.size w' w2) := fun y hy w' w7 h7 hw => mwAt y u w3.heap.size w' (hG.below (hw.lower (bto hb h7) (by rintro k (rfl | rfl) <;> omega))) hy (by omega) (by omega) ((y9.below h7).keepX hw hne9)
  have C7 := Lib.hid (riAdd (l := canon z) (l' := [49]) (by omega) (by decide) (show _ = z + 1 by rw [val_canon]; rfl))
  have HY1 : Hid ((canon z).length ≤ 1000000) := by show _ ≤ _; omega
  have HY2 : Hid ((canon (z + 1)).length ≤ 1000000) := Nat.le_trans (HLn.out (z + 1) (by omega) (by omega)) (by omega)
  obtain ⟨sz, hsz⟩ : ∃ sz, sz = w.heap.size := ⟨_, rfl⟩
  have HSz := Lib.hid hsz
  have HW := Lib.hid hb
  have HGw := Lib.hid hG
  clear h hP hzl hs HLn HR HVl hu0 hul hN9 hNl hsz2 hs2b hsz3 hs4 hG
  go_wp2_with fail
  refine wp_region_kept (by kernel_rfl) (by kernel_rfl) ?_
  refine kept_val _ (fun _ => rfl) (fun ρ wz hw => by have q0 : wz.cell? ⟨w.heap.size, 0, none⟩ = some (.slice A n c) := (y2.below hw).c 0; go_simp; first | done | with_reducible rfl) ?_
  simp only [Act.put, List.setIfInBounds_toArray, List.set_cons_zero, List.set_cons_succ, Nat.reduceAdd]
  refine kept_val _ (fun _ => rfl) (fun ρ wz hw => by have q0 : wz.cell? ⟨w2.heap.size, 0, none⟩ = some (.int .i64 s) := (y8.below hw).c 0; go_simp; first | done | with_reducible rfl) ?_
  simp only [Act.put, List.setIfInBounds_toArray, List.set_cons_zero, List.set_cons_succ, Nat.reduceAdd]
  refine kept_val _ (fun _ => rfl) (fun ρ wz hw => by have q0 : wz.cell? ⟨w3.heap.size + 1, 0, none⟩ = some (.func (Fn.func 65) #[] #[.pointer (some ⟨w3.heap.size, 0, none⟩)]) := (y11.below hw).c 0; go_simp; first | done | with_reducible rfl) ?_
  simp only [Act.put, List.setIfInBounds_toArray, List.set_cons_zero, List.set_cons_succ, Nat.reduceAdd]
  refine kept_val _ (fun _ => rfl) (fun ρ wz hw => by go_simp; first | done | with_reducible rfl) ?_
  simp only [Act.put, List.setIfInBounds_toArray, List.set_cons_zero, List.set_cons_succ, Nat.reduceAdd]
  refine kept_call _ _ _ (fun _ => rfl) (fun ρ wz hw => by go_simp; first | done | with_reducible rfl) (fun wz hw => CA.out wz hw) ?_
  simp only [Act.put, List.setIfInBounds_toArray, List.set_cons_zero, List.set_cons_succ, Nat.reduceAdd]
  refine kept_call _ _ _ (fun _ => rfl) (fun ρ wz hw => by go_simp; first | done | with_reducible rfl) (fun wz hw => C5.out wz hw) ?_
  simp only [Act.put, List.setIfInBounds_toArray, List.set_cons_zero, List.set_cons_succ, Nat.reduceAdd]
  refine kept_val _ (fun _ => rfl) (fun ρ wz hw => by go_simp; first | done | with_reducible rfl) ?_
  simp only [Act.put, List.setIfInBounds_toArray, List.set_cons_zero, List.set_cons_succ, Nat.reduceAdd]
  refine kept_end (fun ρ w7 hF => ?_)
  have h67 := hF.below
  clear hF
  have z4l := (Array.getElem?_eq_some_iff.1 z4).1
  have z5l := (Array.getElem?_eq_some_iff.1 z5).1
  replace y11 := y11.below h67
  replace z4 := (h67.block _ z4l).trans z4
  replace z5 := (h67.block _ z5l).trans z5
  replace hb := bto hb h67
  have hX : ∀ k, (k = w.heap.size + 1 ∨ k = w.heap.size + 1 + 1) → w.heap.size ≤ k := by rintro k (rfl | rfl) <;> omega
  have hx11 := hne11
  have HCB : Hid (∀ y, (canon y).length ≤ 1000000 → ∀ w', BelowX (fun k => k = w.heap.size + 1 ∨ k = w.heap.size + 1 + 1) w7 w' → Calls Tryz.prog 65 #[.string ⟨(canon y).toArray⟩, .pointer (some ⟨w3.heap.size, 0, none⟩)] w' fun e w2 => e = .returned (Value.agg #[Value.string ⟨List.toArray (fN (Rat.divInt y u))⟩, Value.string ⟨List.toArray (fD (Rat.divInt y u))⟩]) ∧ Below w'.heap.size w' w2) := fun y hy w' hw => CB.out y hy w' w7 h67 hw
  clear y2 y8 y9 CA C5 CB h67
  by_cases gz : P = 0
  · have e4 : (P == 0) = true := intbeq gz
    have HV : Hid (bndV ps p z = .tuple #[(Value.agg #[Value.string ⟨List.toArray (fN qz)⟩, Value.string ⟨List.toArray (fD qz)⟩]), (Value.agg #[Value.string ⟨List.toArray (fN qz)⟩, Value.string ⟨List.toArray (fD qz)⟩]), .int .i64 0]) := by show _ = _; rw [HV0.out, HTop.out, if_pos gz, ← hqz]
    have CC := Lib.hid (HCB.out z HY1.out)
    rw [← hqz] at CC
    clear gz HV0 HTop HCB hqz C7 HY1 HY2
    go_wp2_with fail
    refine wp_region_kept_two 30 (w.heap.size + 1) (w.heap.size + 1 + 1) 4 5 _ _ (by kernel_rfl) (by kernel_rfl) (by decide) (by omega) z4 z5 rfl ?_
    simp only [Act.put, List.setIfInBounds_toArray, List.set_cons_zero, List.set_cons_succ]
    refine kept_val _ (fun _ => rfl) (fun ρ wz hw => by have q0 : wz.cell? ⟨w3.heap.size + 1, 0, none⟩ = some (.func (Fn.func 65) #[] #[.pointer (some ⟨w3.heap.size, 0, none⟩)]) := (y11.keepX hw hx11).c 0; go_simp; first | done | with_reducible rfl) ?_
    simp only [Act.put, List.setIfInBounds_toArray, List.set_cons_zero, List.set_cons_succ, Nat.reduceAdd]
    refine kept_val _ (fun _ => rfl) (fun ρ wz hw => by go_simp; first | done | with_reducible rfl) ?_
    simp only [Act.put, List.setIfInBounds_toArray, List.set_cons_zero, List.set_cons_succ, Nat.reduceAdd]
    refine kept_call _ _ _ (fun _ => rfl) (fun ρ wz hw => by go_simp; first | done | with_reducible rfl) (fun wz hw => CC.out wz hw) ?_
    simp only [Act.put, List.setIfInBounds_toArray, List.set_cons_zero, List.set_cons_succ, Nat.reduceAdd]
    refine kept_val _ (fun _ => rfl) (fun ρ wz hw => by have q0 : wz.cell? ⟨w3.heap.size + 1, 0, none⟩ = some (.func (Fn.func 65) #[] #[.pointer (some ⟨w3.heap.size, 0, none⟩)]) := (y11.keepX hw hx11).c 0; go_simp; first | done | with_reducible rfl) ?_
    simp only [Act.put, List.setIfInBounds_toArray, List.set_cons_zero, List.set_cons_succ, Nat.reduceAdd]
    refine kept_val _ (fun _ => rfl) (fun ρ wz hw => by go_simp; first | done | with_reducible rfl) ?_
    simp only [Act.put, List.setIfInBounds_toArray, List.set_cons_zero, List.set_cons_succ, Nat.reduceAdd]
    refine kept_call _ _ _ (fun _ => rfl) (fun ρ wz hw => by go_simp; first | done | with_reducible rfl) (fun wz hw => CC.out wz hw) ?_
    simp only [Act.put, List.setIfInBounds_toArray, List.set_cons_zero, List.set_cons_succ, Nat.reduceAdd]
    refine kept_putK 30 _ _ _ _ _ rfl rfl (fun _ => rfl) (fun ρ wz hw q0 q1 q2 q3 => by go_simp; first | done | with_reducible rfl) ?_
    simp only [Act.put, Nat.reduceAdd]
    refine kept_putK 31 _ _ _ _ _ rfl rfl (fun _ => rfl) (fun ρ wz hw q0 q1 q2 q3 => by go_simp; first | done | with_reducible rfl) ?_
    simp only [Act.put, Nat.reduceAdd]
    refine kept_val _ (fun _ => rfl) (fun ρ wz hw => by go_simp; first | done | with_reducible rfl) ?_
    simp only [Act.put, List.setIfInBounds_toArray, List.set_cons_zero, List.set_cons_succ, Nat.reduceAdd]
    refine kept_endX (fun ρ w8 hF => ?_)
    have hb8 := hF.below.lower hb hX
    have t4 := FBox.ofB (hF.box 30 _ _ rfl).2
    have t5 := FBox.ofB (hF.box 31 _ _ rfl).2
    generalize ρ 30 = c4 at *
    generalize ρ 31 = c5 at *
    clear hF
    have d0 := t4.c0
    have d1 := t4.c1
    have d2 := t5.c0
    have d3 := t5.c1
    go_wp2
    refine bodyPost_ret (v := .tuple #[(Value.agg #[Value.string ⟨List.toArray (fN qz)⟩, Value.string ⟨List.toArray (fD qz)⟩]), (Value.agg #[Value.string ⟨List.toArray (fN qz)⟩, Value.string ⟨List.toArray (fD qz)⟩]), .int .i64 0]) (by simp [results, Tryz.results14, go_sem, d0, d1, d2, d3]) rfl ?_
    exact ⟨by rw [HV.out], hb8⟩
  · have e4 : (P == 0) = false := intbne gz
    have HV : Hid (bndV ps p z = .tuple #[(Value.agg #[Value.string ⟨List.toArray (fN qz)⟩, Value.string ⟨List.toArray (fD qz)⟩]), (Value.agg #[Value.string ⟨List.toArray (fN (Rat.divInt (z + 1) u))⟩, Value.string ⟨List.toArray (fD (Rat.divInt (z + 1) u))⟩]), .int .i64 0]) := by show _ = _; rw [HV0.out, HTop.out, if_neg gz]
    have CC := Lib.hid (HCB.out z HY1.out)
    have CD := Lib.hid (HCB.out (z + 1) HY2.out)
    rw [← hqz] at CC
    obtain ⟨q2, hq2⟩ : ∃ q2, q2 = Rat.divInt (z + 1) u := ⟨_, rfl⟩
    rw [← hq2] at CD HV
    clear gz HV0 HTop HCB hqz HY1 HY2 hq2
    go_wp2_with fail
    refine wp_region_kept_two 30 (w.heap.size + 1) (w.heap.size + 1 + 1) 4 5 _ _ (by kernel_rfl) (by kernel_rfl) (by decide) (by omega) z4 z5 rfl ?_
    simp only [Act.put, List.setIfInBounds_toArray, List.set_cons_zero, List.set_cons_succ]
    refine kept_val _ (fun _ => rfl) (fun ρ wz hw => by have q0 : wz.cell? ⟨w3.heap.size + 1, 0, none⟩ = some (.func (Fn.func 65) #[] #[.pointer (some ⟨w3.heap.size, 0, none⟩)]) := (y11.keepX hw hx11).c 0; go_simp; first | done | with_reducible rfl) ?_
    simp only [Act.put, List.setIfInBounds_toArray, List.set_cons_zero, List.set_cons_succ, Nat.reduceAdd]
    refine kept_val _ (fun _ => rfl) (fun ρ wz hw => by go_simp; first | done | with_reducible rfl) ?_
    simp only [Act.put, List.setIfInBounds_toArray, List.set_cons_zero, List.set_cons_succ, Nat.reduceAdd]
    refine kept_call _ _ _ (fun _ => rfl) (fun ρ wz hw => by go_simp; first | done | with_reducible rfl) (fun wz hw => CC.out wz hw) ?_
    simp only [Act.put, List.setIfInBounds_toArray, List.set_cons_zero, List.set_cons_succ, Nat.reduceAdd]
    refine kept_val _ (fun _ => rfl) (fun ρ wz hw => by have q0 : wz.cell? ⟨w3.heap.size + 1, 0, none⟩ = some (.func (Fn.func 65) #[] #[.pointer (some ⟨w3.heap.size, 0, none⟩)]) := (y11.keepX hw hx11).c 0; go_simp; first | done | with_reducible rfl) ?_
    simp only [Act.put, List.setIfInBounds_toArray, List.set_cons_zero, List.set_cons_succ, Nat.reduceAdd]
    refine kept_val _ (fun _ => rfl) (fun ρ wz hw => by go_simp; first | done | with_reducible rfl) ?_
    simp only [Act.put, List.setIfInBounds_toArray, List.set_cons_zero, List.set_cons_succ, Nat.reduceAdd]
    refine kept_call _ _ _ (fun _ => rfl) (fun ρ wz hw => by go_simp; first | done | with_reducible rfl) (fun wz hw => C7.out.of HGw.out (hw.lower hb hX)) ?_
    simp only [Act.put, List.setIfInBounds_toArray, List.set_cons_zero, List.set_cons_succ, Nat.reduceAdd]
    refine kept_call _ _ _ (fun _ => rfl) (fun ρ wz hw => by go_simp; first | done | with_reducible rfl) (fun wz hw => CD.out wz hw) ?_
    simp only [Act.put, List.setIfInBounds_toArray, List.set_cons_zero, List.set_cons_succ, Nat.reduceAdd]
    refine kept_putK 30 _ _ _ _ _ rfl rfl (fun _ => rfl) (fun ρ wz hw q0 q1 q2 q3 => by go_simp; first | done | with_reducible rfl) ?_
    simp only [Act.put, Nat.reduceAdd]
    refine kept_putK 31 _ _ _ _ _ rfl rfl (fun _ => rfl) (fun ρ wz hw q0 q1 q2 q3 => by go_simp; first | done | with_reducible rfl) ?_
    simp only [Act.put, Nat.reduceAdd]
    refine kept_val _ (fun _ => rfl) (fun ρ wz hw => by go_simp; first | done | with_reducible rfl) ?_
    simp only [Act.put, List.setIfInBounds_toArray, List.set_cons_zero, List.set_cons_succ, Nat.reduceAdd]
    refine kept_endX (fun ρ w8 hF => ?_)
    have hb8 := hF.below.lower hb hX
    have t4 := FBox.ofB (hF.box 30 _ _ rfl).2
    have t5 := FBox.ofB (hF.box 31 _ _ rfl).2
    generalize ρ 30 = c4 at *
    generalize ρ 31 = c5 at *
    clear hF
    have d0 := t4.c0
    have d1 := t4.c1
    have d2 := t5.c0
    have d3 := t5.c1
    go_wp2
    refine bodyPost_ret (v := .tuple #[(Value.agg #[Value.string ⟨List.toArray (fN qz)⟩, Value.string ⟨List.toArray (fD qz)⟩]), (Value.agg #[Value.string ⟨List.toArray (fN q2)⟩, Value.string ⟨List.toArray (fD q2)⟩]), .int .i64 0]) (by simp [results, Tryz.results14, go_sem, d0, d1, d2, d3]) rfl ?_
    exact ⟨by rw [HV.out], hb8⟩

end Go.Proofs.YtolbojchdlojnaaGreatDoor
