/- Bounds: trancheref47. -/
import Derived.Test.YtolbojchdlojnaaGreatDoorWk
namespace Go.Proofs.YtolbojchdlojnaaGreatDoor
open Go.RowKit Num
def oneZ (k : Nat) : List UInt8 := 49 :: List.replicate k 48
theorem oneZ_val : ∀ k : Fin 13, val (oneZ k.val) = ((10 ^ k.val : Nat) : Int) := by decide +kernel
theorem oneZ_step (k : Nat) : oneZ (k + 1) = oneZ k ++ [48] := by unfold oneZ; rw [List.replicate_succ']; rfl
theorem oneZ_len (k : Nat) : (oneZ k).length = k + 1 := by unfold oneZ; simp
set_option maxHeartbeats 1000000 in
set_option maxRecDepth 100000 in
theorem mrUnit {p : Nat} (hp : p ≤ 12) : Ret 86 #[.int .i64 (p : Int)] (.string ⟨(oneZ p).toArray⟩) := fun w hG => by
  have HL : Hid (∀ k, (oneZ k).length = k + 1) := oneZ_len
  have HS : Hid (∀ k, oneZ (k + 1) = oneZ k ++ [48]) := oneZ_step
  have h0 : (⟨#[49]⟩ : ByteArray) = ⟨(oneZ 0).toArray⟩ := rfl
  have H0 := Lib.hid h0
  clear h0
  go_enter Tryz.func86, Tryz.ntmps86
  go_wp2_with fail
  go_loopw [3, 4] (fun sv iv wr => ∃ k : Nat, k ≤ p ∧ iv = .int .i64 (k : Int) ∧ sv = .string ⟨(oneZ k).toArray⟩ ∧ Below w.heap.size w wr) (fun _ iv _ => p - (intOf iv).toNat)
  case atStart => exact ⟨0, Nat.zero_le _, rfl, by rw [H0.out], Below.refl _ _⟩
  case round =>
    obtain ⟨k, hk, rfl, rfl, hb⟩ := hrel
    by_cases hlk : k < p
    · obtain ⟨L, hL⟩ : ∃ L, L = oneZ k := ⟨_, rfl⟩
      have hl := HL.out k
      rw [← hL] at hl ⊢
      have hadd := str_add2 L [48] (by simp; omega)
      have HX : Hid (oneZ (k + 1) = L ++ [48]) := by show _ = _; rw [HS.out, hL]
      clear hL hl HL HS
      go_wp2
      go_roundw
      case rel => exact ⟨k + 1, by omega, by go_num, by rw [HX.out], hb⟩
      case measure => simp [intOf]; omega
    · obtain rfl : k = p := by omega
      go_wp2
      go_ret
      exact ⟨rfl, hb⟩
theorem lastZ {l : List PZ} {j : Nat} (hc : chN (sumsL 0 l) = 1) (hj : (sumsL 0 l).length = j + 1) : ((sumsL 0 l).map (fun x => cmpZ x 0))[j]? = some (-sg1 (sumsL 0 l)) := by
  have hne : sumsL 0 l ≠ [] := fun h => by rw [h] at hj; cases hj
  rw [← last_first hc, lastS_get _ 0 hne, List.getElem?_map, List.getLast_eq_getElem]
  have e1 : (sumsL 0 l).length - 1 = j := by omega
  rw [List.getElem?_eq_getElem (by omega)]
  simp only [e1, Option.map_some]
theorem sum901 {a b : Int} {N : Nat} (h : a.natAbs < 10 ^ N) (k : b.natAbs < 10 ^ N) : (a + b).natAbs < 10 ^ (N + 1) := by
  have e3 : 10 ^ (N + 1) = 10 ^ N * 10 := Nat.pow_succ ..
  generalize 10 ^ (N + 1) = X at *
  generalize 10 ^ N = Y at *
  omega
theorem sum_len {a b : Int} {N : Nat} (ha : (canon a).length ≤ N) (hb : (canon b).length ≤ N) : (canon (a + b)).length ≤ N + 2 := by
  have h1 := val_lt_of ha
  have h2 := val_lt_of hb
  rw [val_canon] at h1 h2
  exact Nat.le_trans (canon_len_le _ _ (sum901 h1 h2)) (by omega)
theorem cmpZ_lt0 (a b : Int) : cmpZ a b < 0 ↔ a < b := by unfold cmpZ; split <;> (try split) <;> omega
theorem mrFracT {y u : Int} {T : List UInt8} {q : Rat} (hy : (canon y).length ≤ 3800) (hT : T.length ≤ 3800) (hu : val T = u) (h0 : u ≠ 0) (eq : Rat.divInt y u = q) : Ret 88 #[.string ⟨(canon y).toArray⟩, .string ⟨T.toArray⟩] (Value.agg #[Value.string ⟨List.toArray (fN q)⟩, Value.string ⟨List.toArray (fD q)⟩]) := fun w hG => by
  have C1 := Lib.hid (sNew1 (l := canon y) (l' := T) hy hT (by rw [hu]; exact h0) (show fv _ _ = q by unfold fv; rw [val_canon, hu]; unfold den1; rw [if_neg h0]; exact eq))
  generalize canon y = Y at *
  have x3 := FBox.new w (.string ⟨#[]⟩) (.string ⟨#[]⟩) 30
  have hb := below_alloc w (.cells #[.string ⟨#[]⟩, .string ⟨#[]⟩] 30)
  clear hy hu h0 eq hT
  go_enter Tryz.func88, Tryz.ntmps88
  go_wp2_with fail
  ((with_reducible refine (C1.out.of hG hb).mono ?_); rintro e w2 ⟨rfl, hb2⟩)
  have x4 := FBox.new w2 (.string ⟨(fN q).toArray⟩) (.string ⟨(fD q).toArray⟩) 30
  have hbA := below_alloc w2 (.cells #[.string ⟨(fN q).toArray⟩, .string ⟨(fD q).toArray⟩] 30)
  replace x3 := (x3.below hb2).below hbA
  replace hb := bto hb (bto hb2 hbA)
  have g0 := x3.c0
  have g1 := x3.c1
  have g2 := x3.f0
  have g3 := x3.f1
  have p0 := x4.c0
  have p1 := x4.c1
  clear hb2 hbA
  go_wp2
  have hy := x3.set (.string ⟨(fN q).toArray⟩) (.string ⟨(fD q).toArray⟩)
  have d0 := hy.c0
  have d1 := hy.c1
  refine bodyPost_ret (v := (Value.agg #[Value.string ⟨List.toArray (fN q)⟩, Value.string ⟨List.toArray (fD q)⟩])) (by simp [results, Tryz.results88, go_sem, d0, d1]) rfl ?_
  exact ⟨rfl, below_set2 hb (Nat.le_refl _) _ _⟩
set_option maxHeartbeats 2000000 in
set_option maxRecDepth 100000 in
theorem mrBounds_bad (A : Option Addr) (ps : List Pay) (n c : Nat) (p z : Int) (w : World) (hG : Glob w) (h : PL w A ps n) (hbad : ¬ payE ps = 0 ∨ (p < 0 ∨ 12 < p) ∨ ¬ chN (sumsL 0 (pzs ps)) = 1) :
    Calls Tryz.prog 33 #[.slice A n c, .int .i64 p] w fun e w' => e = .returned (bndV ps p z) ∧ Below w.heap.size w w' := by
  have C1 := Lib.hid (mrCheckB hG h c)
  have x4 := (FBox.new w (.string ⟨#[]⟩) (.string ⟨#[]⟩) 30).below (below_alloc _ (.cells #[.string ⟨#[]⟩, .string ⟨#[]⟩] 30))
  have x5 := FBox.new (w.alloc (.cells #[.string ⟨#[]⟩, .string ⟨#[]⟩] 30)) (.string ⟨#[]⟩) (.string ⟨#[]⟩) 30
  have hb := bto (below_alloc w (.cells #[.string ⟨#[]⟩, .string ⟨#[]⟩] 30)) (below_alloc _ (.cells #[.string ⟨#[]⟩, .string ⟨#[]⟩] 30))
  simp only [World.size_alloc] at x5
  by_cases g : payE ps = 0
  rotate_left
  · have HV : Hid (bndV ps p z = .tuple #[.agg #[.string ⟨#[]⟩, .string ⟨#[]⟩], .agg #[.string ⟨#[]⟩, .string ⟨#[]⟩], .int .i64 1]) := if_pos g
    have e1 : (payE ps != 0) = true := bneq' (intbne g)
    generalize payE ps = E at *
    clear g h hbad
    go_enter Tryz.func33, Tryz.ntmps33
    go_wp2_with fail
    ((with_reducible refine (C1.out.of hG hb).mono ?_); rintro e w1 ⟨rfl, hb1⟩)
    replace x4 := x4.below hb1
    replace x5 := x5.below hb1
    replace hb := bto hb hb1
    clear hb1
    have g0 := x4.c0
    have g1 := x4.c1
    have g2 := x4.f0
    have g3 := x4.f1
    have k0 := x5.c0
    have k1 := x5.c1
    have k2 := x5.f0
    have k3 := x5.f1
    have hn45 : w.heap.size ≠ w.heap.size + 1 := by omega
    go_wp2
    have hy4 := (x4.set (.string ⟨#[]⟩) (.string ⟨#[]⟩)).setNe hn45 (.string ⟨#[]⟩) (.string ⟨#[]⟩)
    have hy5 := (x5.setNe (Ne.symm hn45) (.string ⟨#[]⟩) (.string ⟨#[]⟩)).set (.string ⟨#[]⟩) (.string ⟨#[]⟩)
    have d0 := hy4.c0
    have d1 := hy4.c1
    have d2 := hy5.c0
    have d3 := hy5.c1
    refine bodyPost_ret (v := .tuple #[.agg #[.string ⟨#[]⟩, .string ⟨#[]⟩], .agg #[.string ⟨#[]⟩, .string ⟨#[]⟩], .int .i64 1]) (by simp [results, Tryz.results33, go_sem, d0, d1, d2, d3]) rfl ?_
    exact ⟨by rw [HV.out], below_set2 (b := w.heap.size + 1) (below_set2 (b := w.heap.size) hb (Nat.le_refl _) _ _) (by omega) _ _⟩
  rw [g] at C1
  by_cases gp : p < 0 ∨ 12 < p
  · have HV : Hid (bndV ps p z = .tuple #[.agg #[.string ⟨#[]⟩, .string ⟨#[]⟩], .agg #[.string ⟨#[]⟩, .string ⟨#[]⟩], .int .i64 2]) := by show _ = _; unfold bndV; rw [if_neg (fun h => h g), if_pos gp]
    clear g h hbad
    by_cases g0 : p < 0
    · have e1 : decide (p < 0) = true := decide_eq_true g0
      clear g0 gp
      go_enter Tryz.func33, Tryz.ntmps33
      go_wp2_with fail
      ((with_reducible refine (C1.out.of hG hb).mono ?_); rintro e w1 ⟨rfl, hb1⟩)
      replace x4 := x4.below hb1
      replace x5 := x5.below hb1
      replace hb := bto hb hb1
      clear hb1
      have g0 := x4.c0
      have g1 := x4.c1
      have g2 := x4.f0
      have g3 := x4.f1
      have k0 := x5.c0
      have k1 := x5.c1
      have k2 := x5.f0
      have k3 := x5.f1
      have hn45 : w.heap.size ≠ w.heap.size + 1 := by omega
      go_wp2
      have hy4 := (x4.set (.string ⟨#[]⟩) (.string ⟨#[]⟩)).setNe hn45 (.string ⟨#[]⟩) (.string ⟨#[]⟩)
      have hy5 := (x5.setNe (Ne.symm hn45) (.string ⟨#[]⟩) (.string ⟨#[]⟩)).set (.string ⟨#[]⟩) (.string ⟨#[]⟩)
      have d0 := hy4.c0
      have d1 := hy4.c1
      have d2 := hy5.c0
      have d3 := hy5.c1
      refine bodyPost_ret (v := .tuple #[.agg #[.string ⟨#[]⟩, .string ⟨#[]⟩], .agg #[.string ⟨#[]⟩, .string ⟨#[]⟩], .int .i64 2]) (by simp [results, Tryz.results33, go_sem, d0, d1, d2, d3]) rfl ?_
      exact ⟨by rw [HV.out], below_set2 (b := w.heap.size + 1) (below_set2 (b := w.heap.size) hb (Nat.le_refl _) _ _) (by omega) _ _⟩
    · have e1 : decide (p < 0) = false := decide_eq_false g0
      have e2 : decide (12 < p) = true := decide_eq_true (by omega)
      clear g0 gp
      go_enter Tryz.func33, Tryz.ntmps33
      go_wp2_with fail
      ((with_reducible refine (C1.out.of hG hb).mono ?_); rintro e w1 ⟨rfl, hb1⟩)
      replace x4 := x4.below hb1
      replace x5 := x5.below hb1
      replace hb := bto hb hb1
      clear hb1
      have g0 := x4.c0
      have g1 := x4.c1
      have g2 := x4.f0
      have g3 := x4.f1
      have k0 := x5.c0
      have k1 := x5.c1
      have k2 := x5.f0
      have k3 := x5.f1
      have hn45 : w.heap.size ≠ w.heap.size + 1 := by omega
      go_wp2
      have hy4 := (x4.set (.string ⟨#[]⟩) (.string ⟨#[]⟩)).setNe hn45 (.string ⟨#[]⟩) (.string ⟨#[]⟩)
      have hy5 := (x5.setNe (Ne.symm hn45) (.string ⟨#[]⟩) (.string ⟨#[]⟩)).set (.string ⟨#[]⟩) (.string ⟨#[]⟩)
      have d0 := hy4.c0
      have d1 := hy4.c1
      have d2 := hy5.c0
      have d3 := hy5.c1
      refine bodyPost_ret (v := .tuple #[.agg #[.string ⟨#[]⟩, .string ⟨#[]⟩], .agg #[.string ⟨#[]⟩, .string ⟨#[]⟩], .int .i64 2]) (by simp [results, Tryz.results33, go_sem, d0, d1, d2, d3]) rfl ?_
      exact ⟨by rw [HV.out], below_set2 (b := w.heap.size + 1) (below_set2 (b := w.heap.size) hb (Nat.le_refl _) _ _) (by omega) _ _⟩
  have gc : ¬ chN (sumsL 0 (pzs ps)) = 1 := by rcases hbad with h | h | h; exact absurd g h; exact absurd h gp; exact h
  have HV : Hid (bndV ps p z = .tuple #[.agg #[.string ⟨#[]⟩, .string ⟨#[]⟩], .agg #[.string ⟨#[]⟩, .string ⟨#[]⟩], .int .i64 25]) := by show _ = _; unfold bndV; rw [if_neg (fun h => h g), if_neg gp, if_pos gc]
  have e1 : decide (p < 0) = false := decide_eq_false (by omega)
  have e2 : decide (12 < p) = false := decide_eq_false (by omega)
  have e3 : ((chN (sumsL 0 (pzs ps)) : Int) != 1) = true := bneq' (intbne (by omega))
  have HP := Lib.hid h
  have hl := Nat.le_trans (sums_len (pzs ps) 0) (by unfold pzs; rw [List.length_map]; exact Nat.le_of_eq h.len : (pzs ps).length ≤ n)
  have hn3 := h.n1
  clear g gp gc h hbad
  go_enter Tryz.func33, Tryz.ntmps33
  go_wp2_with fail
  ((with_reducible refine (C1.out.of hG hb).mono ?_); rintro e w1 ⟨rfl, hb1⟩)
  replace x4 := x4.below hb1
  replace x5 := x5.below hb1
  replace hb := bto hb hb1
  clear hb1
  go_wp2_with fail
  ((with_reducible refine (mrSigns A ps n c _ (hG.below hb) (HP.out.below hb)).mono ?_); rintro e w2 ⟨B, cp, rfl, hI, hb2⟩)
  replace x4 := x4.below hb2
  replace x5 := x5.below hb2
  replace hb := bto hb hb2
  have C3 := Lib.hid (mrChg B _ _ cp w2 (List.length_map _) (by omega) hI)
  rw [nb_chN] at C3
  generalize ((chN (sumsL 0 (pzs ps)) : Nat) : Int) = ch at *
  generalize (sumsL 0 (pzs ps)).length = m at *
  clear hI hb2
  go_wp2_with fail
  ((with_reducible refine (C3.out).mono ?_); rintro e w3 ⟨rfl, hb3⟩)
  replace x4 := x4.below hb3
  replace x5 := x5.below hb3
  replace hb := bto hb hb3
  clear hb3
  have g0 := x4.c0
  have g1 := x4.c1
  have g2 := x4.f0
  have g3 := x4.f1
  have k0 := x5.c0
  have k1 := x5.c1
  have k2 := x5.f0
  have k3 := x5.f1
  have hn45 : w.heap.size ≠ w.heap.size + 1 := by omega
  go_wp2
  have hy4 := (x4.set (.string ⟨#[]⟩) (.string ⟨#[]⟩)).setNe hn45 (.string ⟨#[]⟩) (.string ⟨#[]⟩)
  have hy5 := (x5.setNe (Ne.symm hn45) (.string ⟨#[]⟩) (.string ⟨#[]⟩)).set (.string ⟨#[]⟩) (.string ⟨#[]⟩)
  have d0 := hy4.c0
  have d1 := hy4.c1
  have d2 := hy5.c0
  have d3 := hy5.c1
  refine bodyPost_ret (v := .tuple #[.agg #[.string ⟨#[]⟩, .string ⟨#[]⟩], .agg #[.string ⟨#[]⟩, .string ⟨#[]⟩], .int .i64 25]) (by simp [results, Tryz.results33, go_sem, d0, d1, d2, d3]) rfl ?_
  exact ⟨by rw [HV.out], below_set2 (b := w.heap.size + 1) (below_set2 (b := w.heap.size) hb (Nat.le_refl _) _ _) (by omega) _ _⟩
set_option maxHeartbeats 8000000 in
set_option maxRecDepth 100000 in
theorem mrBounds_ok (A : Option Addr) (ps : List Pay) (n c : Nat) (p z : Int) (N : Nat) (w : World) (hG : Glob w) (h : PL w A ps n) (g : payE ps = 0) (g0 : 0 ≤ p) (g12 : p ≤ 12) (gc : chN (sumsL 0 (pzs ps)) = 1) (hB : BndOk ps p z N) :
    Calls Tryz.prog 33 #[.slice A n c, .int .i64 p] w fun e w' => e = .returned (bndV ps p z) ∧ Below w.heap.size w w' := by
  have C1 := Lib.hid (mrCheckB hG h c)
  rw [g] at C1
  have x4 := (FBox.new w (.string ⟨#[]⟩) (.string ⟨#[]⟩) 30).below (below_alloc _ (.cells #[.string ⟨#[]⟩, .string ⟨#[]⟩] 30))
  have x5 := FBox.new (w.alloc (.cells #[.string ⟨#[]⟩, .string ⟨#[]⟩] 30)) (.string ⟨#[]⟩) (.string ⟨#[]⟩) 30
  have hb := bto (below_alloc w (.cells #[.string ⟨#[]⟩, .string ⟨#[]⟩] 30)) (below_alloc _ (.cells #[.string ⟨#[]⟩, .string ⟨#[]⟩] 30))
  simp only [World.size_alloc] at x5
  have e1 : decide (p < 0) = false := decide_eq_false (by omega)
  have e2 : decide (12 < p) = false := decide_eq_false (by omega)
  have hs := sg1_cases gc
  have HV0 : Hid (bndV ps p z = .tuple #[(Value.agg #[Value.string ⟨List.toArray (fN (Rat.divInt z ((10 ^ p.toNat : Nat) : Int)))⟩, Value.string ⟨List.toArray (fD (Rat.divInt z ((10 ^ p.toNat : Nat) : Int)))⟩]), (Value.agg #[Value.string ⟨List.toArray (fN (Rat.divInt (topZ (pzs ps) ((10 ^ p.toNat : Nat) : Int) z) ((10 ^ p.toNat : Nat) : Int)))⟩, Value.string ⟨List.toArray (fD (Rat.divInt (topZ (pzs ps) ((10 ^ p.toNat : Nat) : Int) z) ((10 ^ p.toNat : Nat) : Int)))⟩]), .int .i64 0]) := by show _ = _; unfold bndV; rw [if_neg (fun h => h g), if_neg (by omega), if_neg (fun h => h gc)]
  have C4 := Lib.hid (mrUnit (p := p.toNat) (by omega))
  rw [show ((p.toNat : Nat) : Int) = p by omega] at C4
  have hu0 := u_pos p
  have hTu : val (oneZ p.toNat) = ((10 ^ p.toNat : Nat) : Int) := oneZ_val ⟨p.toNat, by omega⟩
  have hTl : (oneZ p.toNat).length ≤ 13 := by rw [oneZ_len]; omega
  have HIff := Lib.hid hB.root.iff
  have HVl := Lib.hid hB.val
  have HLn : Hid (∀ y, 0 ≤ y → y ≤ 2 * z + 2 → (canon y).length ≤ 901) := fun y h1 h2 => Nat.le_trans (canon_len_le _ N (by have := hB.len; omega)) (by have := hB.n; omega)
  have hzz := hB.root.nn
  have HTop : Hid (topZ (pzs ps) ((10 ^ p.toNat : Nat) : Int) z = if placeQ (sg1 (sumsL 0 (pzs ps))) (pzs ps) (Rat.divInt z ((10 ^ p.toNat : Nat) : Int)) = 0 then z else z + 1) := rfl
  have HPs := Lib.hid h
  have HF : Hid (∀ y, 0 ≤ y → y ≤ 2 * z + 2 → Ret 88 #[.string ⟨(canon y).toArray⟩, .string ⟨(oneZ p.toNat).toArray⟩] (Value.agg #[Value.string ⟨List.toArray (fN (Rat.divInt y ((10 ^ p.toNat : Nat) : Int)))⟩, Value.string ⟨List.toArray (fD (Rat.divInt y ((10 ^ p.toNat : Nat) : Int)))⟩])) := fun y h1 h2 => mrFracT (Nat.le_trans (HLn.out y h1 h2) (by decide)) (by omega) hTu (by omega) rfl
  have HPl : Hid (∀ y, 0 ≤ y → y ≤ 2 * z + 2 → RetB w 87 #[.slice A n c, (Value.agg #[Value.string ⟨List.toArray (fN (Rat.divInt y ((10 ^ p.toNat : Nat) : Int)))⟩, Value.string ⟨List.toArray (fD (Rat.divInt y ((10 ^ p.toNat : Nat) : Int)))⟩]), .int .i64 (-sg1 (sumsL 0 (pzs ps)))] (.int .i64 (placeQ (sg1 (sumsL 0 (pzs ps))) (pzs ps) (Rat.divInt y ((10 ^ p.toNat : Nat) : Int))))) := fun y h1 h2 => by
    have := mrPlace hG h (s := -sg1 (sumsL 0 (pzs ps))) (by omega) (q := Rat.divInt y ((10 ^ p.toNat : Nat) : Int)) (fun hne => hB.val y (by
      by_cases h0 : y = 0
      · exact absurd (by rw [h0]; exact divInt_zero' _) hne
      · omega) h2) c
    rwa [Int.neg_neg] at this
  have HLast := Lib.hid (fun j => lastZ (l := pzs ps) (j := j) gc)
  have HP := Lib.hid h
  have hl := Nat.le_trans (sums_len (pzs ps) 0) (by unfold pzs; rw [List.length_map]; exact Nat.le_of_eq h.len : (pzs ps).length ≤ n)
  have hn3 := h.n1
  have hne : (sumsL 0 (pzs ps)).length ≠ 0 := fun h => by rw [List.eq_nil_of_length_eq_zero h] at gc; cases gc
  have HGc := Lib.hid gc
  clear g hB gc h g0 g12 hTu
  generalize oneZ p.toNat = T at *
  go_enter Tryz.func33, Tryz.ntmps33
  go_wp2_with fail
  ((with_reducible refine (C1.out.of hG hb).mono ?_); rintro e w1 ⟨rfl, hb1⟩)
  replace x4 := x4.below hb1
  replace x5 := x5.below hb1
  replace hb := bto hb hb1
  clear hb1
  go_wp2_with fail
  ((with_reducible refine (mrSigns A ps n c _ (hG.below hb) (HP.out.below hb)).mono ?_); rintro e w2 ⟨B, cp, rfl, hI, hb2⟩)
  replace x4 := x4.below hb2
  replace x5 := x5.below hb2
  replace hb := bto hb hb2
  have C3 := Lib.hid (mrChg B _ _ cp w2 (List.length_map _) (by omega) hI)
  rw [nb_chN] at C3
  rw [HGc.out] at C3
  obtain ⟨j, hj⟩ : ∃ j, (sumsL 0 (pzs ps)).length = j + 1 := ⟨(sumsL 0 (pzs ps)).length - 1, by omega⟩
  obtain ⟨bI, oI, rfl, hbI, hIc⟩ := hI j _ (HLast.out j hj)
  rw [hj] at C3 ⊢
  generalize topZ (pzs ps) ((10 ^ p.toNat : Nat) : Int) z = top at *
  generalize ((10 ^ p.toNat : Nat) : Int) = u at *
  have HGs : Hid (∀ y, (placeQ (sg1 (sumsL 0 (pzs ps))) (pzs ps) (Rat.divInt y u) = placeQ (sg1 (sumsL 0 (pzs ps))) (pzs ps) (Rat.divInt y u))) := fun _ => rfl
  generalize sg1 (sumsL 0 (pzs ps)) = s at *
  have hjw : IntKind.i64.wrap (j : Int) = (j : Int) := Go.IntWalk.i64_in _ (by omega)
  have hj0 : (j : Int) < (j : Int) + 1 := by omega
  clear hI hb2 HLast HGc HP hj hne hl HGs
  go_wp2_with fail
  ((with_reducible refine (C3.out).mono ?_); rintro e w3 ⟨rfl, hb3⟩)
  replace x4 := x4.below hb3
  replace x5 := x5.below hb3
  replace hb := bto hb hb3
  replace hIc := (hb3.cell (p := ⟨bI, oI + j, none⟩) hbI).trans hIc
  replace hbI := Nat.lt_of_lt_of_le hbI hb3.size
  clear hb3
  go_wp2_with fail
  refine wp_region_kept (by kernel_rfl) (by kernel_rfl) ?_
  refine kept_val _ (fun _ => rfl) (fun ρ wz hw => by go_simp; first | done | with_reducible rfl) ?_
  simp only [Act.put, List.setIfInBounds_toArray, List.set_cons_zero, List.set_cons_succ, Nat.reduceAdd]
  refine kept_val _ (fun _ => rfl) (fun ρ wz hw => by go_simp; first | done | with_reducible rfl) ?_
  simp only [Act.put, List.setIfInBounds_toArray, List.set_cons_zero, List.set_cons_succ, Nat.reduceAdd]
  refine kept_val _ (fun _ => rfl) (fun ρ wz hw => by go_simp; first | done | with_reducible rfl) ?_
  simp only [Act.put, List.setIfInBounds_toArray, List.set_cons_zero, List.set_cons_succ, Nat.reduceAdd]
  refine kept_val _ (fun _ => rfl) (fun ρ wz hw => by go_simp; first | done | with_reducible rfl) ?_
  simp only [Act.put, List.setIfInBounds_toArray, List.set_cons_zero, List.set_cons_succ, Nat.reduceAdd]
  refine kept_val _ (fun _ => rfl) (fun ρ wz hw => by go_simp; first | done | with_reducible rfl) ?_
  simp only [Act.put, List.setIfInBounds_toArray, List.set_cons_zero, List.set_cons_succ, Nat.reduceAdd]
  refine kept_val _ (fun _ => rfl) (fun ρ wz hw => by have q0 := (hw.cell (p := ⟨bI, oI + j, none⟩) hbI).trans hIc; go_simp; first | done | with_reducible rfl) ?_
  simp only [Act.put, List.setIfInBounds_toArray, List.set_cons_zero, List.set_cons_succ, Nat.reduceAdd]
  refine kept_val _ (fun _ => rfl) (fun ρ wz hw => by go_simp; first | done | with_reducible rfl) ?_
  simp only [Act.put, List.setIfInBounds_toArray, List.set_cons_zero, List.set_cons_succ, Nat.reduceAdd]
  refine kept_call _ _ _ (fun _ => rfl) (fun ρ wz hw => by go_simp; first | done | with_reducible rfl) (fun wz hw => C4.out.of hG (bto hb hw)) ?_
  simp only [Act.put, List.setIfInBounds_toArray, List.set_cons_zero, List.set_cons_succ, Nat.reduceAdd]
  refine kept_val _ (fun _ => rfl) (fun ρ wz hw => by go_simp; first | done | with_reducible rfl) ?_
  simp only [Act.put, List.setIfInBounds_toArray, List.set_cons_zero, List.set_cons_succ, Nat.reduceAdd]
  refine kept_val _ (fun _ => rfl) (fun ρ wz hw => by go_simp; first | done | with_reducible rfl) ?_
  simp only [Act.put, List.setIfInBounds_toArray, List.set_cons_zero, List.set_cons_succ, Nat.reduceAdd]
  refine kept_end (fun ρ w5 hF => ?_)
  have hb5 := hF.below
  replace x4 := x4.below hb5
  replace x5 := x5.below hb5
  replace hb := bto hb hb5
  clear hF hb5 hIc hbI C4 C3
  go_wp2_with fail
  go_loopw [10, 11] (fun lv hv wr => ∃ lo hi : Int, 0 ≤ lo ∧ lo ≤ z ∧ lo < hi ∧ 1 ≤ hi ∧ hi ≤ 2 * z + 1 ∧ lv = .string ⟨(canon lo).toArray⟩ ∧ hv = .string ⟨(canon hi).toArray⟩ ∧ FBox wr w.heap.size (.string ⟨#[]⟩) (.string ⟨#[]⟩) ∧ FBox wr (w.heap.size + 1) (.string ⟨#[]⟩) (.string ⟨#[]⟩) ∧ Below w.heap.size w wr) (fun _ hv _ => (z + 1 - strZ hv).toNat)
  case atStart => exact ⟨0, 1, Int.le_refl _, hzz, by omega, by omega, by omega, by rw [canon0], rfl, x4, x5, hb⟩
  case round =>
    clear hb x4 x5
    obtain ⟨lo, hi, h1, h2, h3, h4, h5, rfl, rfl, x4, x5, hb⟩ := hrel
    have CF20 := Lib.hid (HF.out hi (by omega) (by omega))
    have CP20 := Lib.hid (HPl.out hi (by omega) (by omega))
    have hiff := HIff.out hi h4
    obtain ⟨q, hq⟩ : ∃ q, q = Rat.divInt hi u := ⟨_, rfl⟩
    rw [← hq] at CF20 CP20 hiff
    generalize placeQ s (pzs ps) q = P at *
    by_cases g : hi ≤ z
    · have e3 : decide (P ≤ 0) = true := decide_eq_true (hiff.2 g)
      have C22 := Lib.hid (qAdd (l := canon hi) (l' := canon hi) (by have := HLn.out hi (by omega) (by omega); omega) (by have := HLn.out hi (by omega) (by omega); omega) (show _ = hi + hi by rw [val_canon]))
      have hm : (z + 1 - strZ (.string ⟨(canon (hi + hi)).toArray⟩)).toNat < (z + 1 - strZ (.string ⟨(canon hi).toArray⟩)).toNat := by rw [strZ_canon, strZ_canon]; omega
      have HM := Lib.hid hm
      clear hm hiff hq
      go_wp2_with fail
      ((with_reducible refine (CF20.out.of hG hb).mono ?_); rintro e w20 ⟨rfl, hb20⟩)
      replace x4 := x4.below hb20
      replace x5 := x5.below hb20
      replace hb := bto hb hb20
      clear hb20
      go_wp2_with fail
      ((with_reducible refine (CP20.out.of hG hb).mono ?_); rintro e w21 ⟨rfl, hb21⟩)
      replace x4 := x4.below hb21
      replace x5 := x5.below hb21
      replace hb := bto hb hb21
      clear hb21
      go_wp2_with fail
      ((with_reducible refine (C22.out.of hG hb).mono ?_); rintro e w22 ⟨rfl, hb22⟩)
      replace x4 := x4.below hb22
      replace x5 := x5.below hb22
      replace hb := bto hb hb22
      clear hb22
      go_wp2
      go_roundw
      case rel => exact ⟨hi, hi + hi, by omega, g, by omega, by omega, by omega, rfl, rfl, x4, x5, hb⟩
      case measure => exact HM.out
    have e3 : decide (P ≤ 0) = false := decide_eq_false (fun h => g (hiff.1 h))
    clear hiff hq
    go_wp2_with fail
    ((with_reducible refine (CF20.out.of hG hb).mono ?_); rintro e w20 ⟨rfl, hb20⟩)
    replace x4 := x4.below hb20
    replace x5 := x5.below hb20
    replace hb := bto hb hb20
    clear hb20
    go_wp2_with fail
    ((with_reducible refine (CP20.out.of hG hb).mono ?_); rintro e w21 ⟨rfl, hb21⟩)
    replace x4 := x4.below hb21
    replace x5 := x5.below hb21
    replace hb := bto hb hb21
    clear hb21
    go_wp2_with fail
    clear e3
    go_loopw [10, 11] (fun lv hv wr => ∃ lo hi : Int, 0 ≤ lo ∧ lo ≤ z ∧ z < hi ∧ hi ≤ 2 * z + 1 ∧ lv = .string ⟨(canon lo).toArray⟩ ∧ hv = .string ⟨(canon hi).toArray⟩ ∧ FBox wr w.heap.size (.string ⟨#[]⟩) (.string ⟨#[]⟩) ∧ FBox wr (w.heap.size + 1) (.string ⟨#[]⟩) (.string ⟨#[]⟩) ∧ Below w.heap.size w wr) (fun lv hv _ => (strZ hv - strZ lv).toNat)
    case atStart => exact ⟨lo, hi, h1, h2, by omega, h5, rfl, rfl, x4, x5, hb⟩
    case round =>
      clear hb x4 x5 h1 h2 h3 h4 h5 g CF20 CP20
      obtain ⟨lo, hi, h1, h2, h3, h5, rfl, rfl, x4, x5, hb⟩ := hrel
      have hl1 := HLn.out lo h1 (by omega)
      have hl2 := HLn.out hi (by omega) (by omega)
      have hl3 := HLn.out (lo + 1) (by omega) (by omega)
      have C30 := Lib.hid (qAdd (l := canon lo) (l' := [49]) (by omega) (by decide) (show _ = lo + 1 by rw [val_canon]; rfl))
      have C31 := Lib.hid (qCompare (l := canon (lo + 1)) (l' := canon hi) (by omega) (by omega) (c := cmpZ (lo + 1) hi) (by rw [val_canon, val_canon]))
      by_cases g : hi - lo = 1
      · obtain rfl : lo = z := by omega
        have e3 : decide (cmpZ (lo + 1) hi < 0) = false := decide_eq_false (fun h => by have := (cmpZ_lt0 _ _).1 h; omega)
        generalize cmpZ (lo + 1) hi = cz at *
        have CF32 := Lib.hid (HF.out lo (by omega) (by omega))
        have CP32 := Lib.hid (HPl.out lo (by omega) (by omega))
        have CF34 := Lib.hid (HF.out hi (by omega) (by omega))
        have CP34 := Lib.hid (HPl.out hi (by omega) (by omega))
        obtain ⟨q, hq⟩ : ∃ q, q = Rat.divInt lo u := ⟨_, rfl⟩
        rw [← hq] at CF32 CP32 HV0 HTop
        have HQq := Lib.hid hq
        clear hq
        generalize placeQ s (pzs ps) q = P at *
        obtain rfl : hi = lo + 1 := by omega
        go_wp2_with fail
        ((with_reducible refine (C30.out.of hG hb).mono ?_); rintro e w30 ⟨rfl, hb30⟩)
        replace x4 := x4.below hb30
        replace x5 := x5.below hb30
        replace hb := bto hb hb30
        clear hb30
        go_wp2_with fail
        ((with_reducible refine (C31.out.of hG hb).mono ?_); rintro e w31 ⟨rfl, hb31⟩)
        replace x4 := x4.below hb31
        replace x5 := x5.below hb31
        replace hb := bto hb hb31
        clear hb31
        go_wp2_with fail
        ((with_reducible refine (CF32.out.of hG hb).mono ?_); rintro e w32 ⟨rfl, hb32⟩)
        replace x4 := x4.below hb32
        replace x5 := x5.below hb32
        replace hb := bto hb hb32
        clear hb32
        go_wp2_with fail
        ((with_reducible refine (CP32.out.of hG hb).mono ?_); rintro e w33 ⟨rfl, hb33⟩)
        replace x4 := x4.below hb33
        replace x5 := x5.below hb33
        replace hb := bto hb hb33
        clear hb33
        by_cases gz : P = 0
        · have e4 : (P == 0) = true := intbeq gz
          have HV : Hid (bndV ps p lo = .tuple #[(Value.agg #[Value.string ⟨List.toArray (fN q)⟩, Value.string ⟨List.toArray (fD q)⟩]), (Value.agg #[Value.string ⟨List.toArray (fN q)⟩, Value.string ⟨List.toArray (fD q)⟩]), .int .i64 0]) := by show _ = _; rw [HV0.out, HTop.out, if_pos gz, ← HQq.out]
          clear gz HV0 HTop HQq HF HPl CF34 CP34
          go_wp2_with fail
          ((with_reducible refine (CF32.out.of hG hb).mono ?_); rintro e w36 ⟨rfl, hb36⟩)
          replace x4 := x4.below hb36
          replace x5 := x5.below hb36
          replace hb := bto hb hb36
          clear hb36
          go_wp2_with fail
          ((with_reducible refine (CF32.out.of hG hb).mono ?_); rintro e w37 ⟨rfl, hb37⟩)
          replace x4 := x4.below hb37
          replace x5 := x5.below hb37
          replace hb := bto hb hb37
          clear hb37
          have g0 := x4.c0
          have g1 := x4.c1
          have g2 := x4.f0
          have g3 := x4.f1
          have k0 := x5.c0
          have k1 := x5.c1
          have k2 := x5.f0
          have k3 := x5.f1
          have hn45 : w.heap.size ≠ w.heap.size + 1 := by omega
          go_wp2
          have hy4 := (x4.set (.string ⟨(fN q).toArray⟩) (.string ⟨(fD q).toArray⟩)).setNe hn45 (.string ⟨(fN q).toArray⟩) (.string ⟨(fD q).toArray⟩)
          have hy5 := (x5.setNe (Ne.symm hn45) (.string ⟨(fN q).toArray⟩) (.string ⟨(fD q).toArray⟩)).set (.string ⟨(fN q).toArray⟩) (.string ⟨(fD q).toArray⟩)
          have d0 := hy4.c0
          have d1 := hy4.c1
          have d2 := hy5.c0
          have d3 := hy5.c1
          refine bodyPost_ret (v := .tuple #[(Value.agg #[Value.string ⟨List.toArray (fN q)⟩, Value.string ⟨List.toArray (fD q)⟩]), (Value.agg #[Value.string ⟨List.toArray (fN q)⟩, Value.string ⟨List.toArray (fD q)⟩]), .int .i64 0]) (by simp [results, Tryz.results33, go_sem, d0, d1, d2, d3]) rfl ?_
          exact ⟨by rw [HV.out], below_set2 (b := w.heap.size + 1) (below_set2 (b := w.heap.size) hb (Nat.le_refl _) _ _) (by omega) _ _⟩
        · have e4 : (P == 0) = false := intbne gz
          have HV : Hid (bndV ps p lo = .tuple #[(Value.agg #[Value.string ⟨List.toArray (fN q)⟩, Value.string ⟨List.toArray (fD q)⟩]), (Value.agg #[Value.string ⟨List.toArray (fN (Rat.divInt (lo + 1) u))⟩, Value.string ⟨List.toArray (fD (Rat.divInt (lo + 1) u))⟩]), .int .i64 0]) := by show _ = _; rw [HV0.out, HTop.out, if_neg gz]
          obtain ⟨q2, hq2⟩ : ∃ q2, q2 = Rat.divInt (lo + 1) u := ⟨_, rfl⟩
          rw [← hq2] at CF34 HV
          clear gz HV0 HTop HQq HF HPl CP34 hq2
          go_wp2_with fail
          ((with_reducible refine (CF32.out.of hG hb).mono ?_); rintro e w36 ⟨rfl, hb36⟩)
          replace x4 := x4.below hb36
          replace x5 := x5.below hb36
          replace hb := bto hb hb36
          clear hb36
          go_wp2_with fail
          ((with_reducible refine (CF34.out.of hG hb).mono ?_); rintro e w37 ⟨rfl, hb37⟩)
          replace x4 := x4.below hb37
          replace x5 := x5.below hb37
          replace hb := bto hb hb37
          clear hb37
          have g0 := x4.c0
          have g1 := x4.c1
          have g2 := x4.f0
          have g3 := x4.f1
          have k0 := x5.c0
          have k1 := x5.c1
          have k2 := x5.f0
          have k3 := x5.f1
          have hn45 : w.heap.size ≠ w.heap.size + 1 := by omega
          go_wp2
          have hy4 := (x4.set (.string ⟨(fN q).toArray⟩) (.string ⟨(fD q).toArray⟩)).setNe hn45 (.string ⟨(fN q2).toArray⟩) (.string ⟨(fD q2).toArray⟩)
          have hy5 := (x5.setNe (Ne.symm hn45) (.string ⟨(fN q).toArray⟩) (.string ⟨(fD q).toArray⟩)).set (.string ⟨(fN q2).toArray⟩) (.string ⟨(fD q2).toArray⟩)
          have d0 := hy4.c0
          have d1 := hy4.c1
          have d2 := hy5.c0
          have d3 := hy5.c1
          refine bodyPost_ret (v := .tuple #[(Value.agg #[Value.string ⟨List.toArray (fN q)⟩, Value.string ⟨List.toArray (fD q)⟩]), (Value.agg #[Value.string ⟨List.toArray (fN q2)⟩, Value.string ⟨List.toArray (fD q2)⟩]), .int .i64 0]) (by simp [results, Tryz.results33, go_sem, d0, d1, d2, d3]) rfl ?_
          exact ⟨by rw [HV.out], below_set2 (b := w.heap.size + 1) (below_set2 (b := w.heap.size) hb (Nat.le_refl _) _ _) (by omega) _ _⟩
      have e3 : decide (cmpZ (lo + 1) hi < 0) = true := decide_eq_true ((cmpZ_lt0 _ _).2 (by omega))
      generalize cmpZ (lo + 1) hi = cz at *
      have hla : (canon (lo + hi)).length ≤ 903 := sum_len hl1 hl2
      have C32 := Lib.hid (qAdd (l := canon lo) (l' := canon hi) (by omega) (by omega) (show _ = lo + hi by rw [val_canon, val_canon]))
      have C33 := Lib.hid (qDiv (l := canon (lo + hi)) (l' := [50]) (by omega) (by decide) (by decide) (show divZ _ (val [50]) = divZ (lo + hi) 2 by rw [val_canon]; rfl) rfl)
      obtain ⟨k1, k2⟩ := mid_lt (a := lo) (b := hi) (by omega)
      generalize modZ (val (canon (lo + hi))) (val [50]) = rr at *
      generalize divZ (lo + hi) 2 = m at *
      have CF34 := Lib.hid (HF.out m (by omega) (by omega))
      have CP34 := Lib.hid (HPl.out m (by omega) (by omega))
      have hiff := HIff.out m (by omega)
      obtain ⟨q, hq⟩ : ∃ q, q = Rat.divInt m u := ⟨_, rfl⟩
      rw [← hq] at CF34 CP34 hiff
      generalize placeQ s (pzs ps) q = P at *
      have hm1 : (strZ (.string ⟨(canon hi).toArray⟩) - strZ (.string ⟨(canon m).toArray⟩)).toNat < (strZ (.string ⟨(canon hi).toArray⟩) - strZ (.string ⟨(canon lo).toArray⟩)).toNat := by rw [strZ_canon, strZ_canon, strZ_canon]; omega
      have hm2 : (strZ (.string ⟨(canon m).toArray⟩) - strZ (.string ⟨(canon lo).toArray⟩)).toNat < (strZ (.string ⟨(canon hi).toArray⟩) - strZ (.string ⟨(canon lo).toArray⟩)).toNat := by rw [strZ_canon, strZ_canon, strZ_canon]; omega
      have HM1 := Lib.hid hm1
      have HM2 := Lib.hid hm2
      clear hm1 hm2 hq hl1 hl2 hl3 hla HF HPl
      go_wp2_with fail
      ((with_reducible refine (C30.out.of hG hb).mono ?_); rintro e w30 ⟨rfl, hb30⟩)
      replace x4 := x4.below hb30
      replace x5 := x5.below hb30
      replace hb := bto hb hb30
      clear hb30
      go_wp2_with fail
      ((with_reducible refine (C31.out.of hG hb).mono ?_); rintro e w31 ⟨rfl, hb31⟩)
      replace x4 := x4.below hb31
      replace x5 := x5.below hb31
      replace hb := bto hb hb31
      clear hb31
      go_wp2_with fail
      ((with_reducible refine (C32.out.of hG hb).mono ?_); rintro e w32 ⟨rfl, hb32⟩)
      replace x4 := x4.below hb32
      replace x5 := x5.below hb32
      replace hb := bto hb hb32
      clear hb32
      go_wp2_with fail
      ((with_reducible refine (C33.out.of hG hb).mono ?_); rintro e w33 ⟨rfl, hb33⟩)
      replace x4 := x4.below hb33
      replace x5 := x5.below hb33
      replace hb := bto hb hb33
      clear hb33
      go_wp2_with fail
      ((with_reducible refine (CF34.out.of hG hb).mono ?_); rintro e w34 ⟨rfl, hb34⟩)
      replace x4 := x4.below hb34
      replace x5 := x5.below hb34
      replace hb := bto hb hb34
      clear hb34
      go_wp2_with fail
      ((with_reducible refine (CP34.out.of hG hb).mono ?_); rintro e w35 ⟨rfl, hb35⟩)
      replace x4 := x4.below hb35
      replace x5 := x5.below hb35
      replace hb := bto hb hb35
      clear hb35
      by_cases gm : m ≤ z
      · have e4 : decide (P ≤ 0) = true := decide_eq_true (hiff.2 gm)
        go_wp2
        go_roundw
        case rel => exact ⟨m, hi, by omega, gm, h3, h5, rfl, rfl, x4, x5, hb⟩
        case measure => exact HM1.out
      · have e4 : decide (P ≤ 0) = false := decide_eq_false (fun h => gm (hiff.1 h))
        go_wp2
        go_roundw
        case rel => exact ⟨lo, m, h1, h2, by omega, by omega, rfl, rfl, x4, x5, hb⟩
        case measure => exact HM2.out
end Go.Proofs.YtolbojchdlojnaaGreatDoor
