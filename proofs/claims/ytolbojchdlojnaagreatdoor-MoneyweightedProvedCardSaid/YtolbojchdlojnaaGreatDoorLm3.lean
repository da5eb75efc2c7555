/- MoneyweightedProved. -/
import Derived.Test.YtolbojchdlojnaaGreatDoorLm2
namespace Go.Proofs.YtolbojchdlojnaaGreatDoor
open Go.RowKit Num
theorem fr_isFr (q : Rat) : isFr (fN q) (fD q) := by unfold isFr; rw [fv_frac]; exact ⟨rfl, rfl⟩
theorem divInt_nn {z u : Int} (hz : 0 ≤ z) (hu : 0 < u) : (0 : Rat) ≤ Rat.divInt z u := by
  have := divInt_le' hz hu
  rwa [divInt_zero'] at this
theorem top_le {l : List PZ} {u z : Int} : z ≤ topZ l u z ∧ topZ l u z ≤ z + 1 := by unfold topZ; split <;> omega
/-- the bounds are verified -/
theorem ver_ok {ps : List Pay} {u z : Int} (h0 : payE ps = 0) (hc : chN (sumsL 0 (pzs ps)) = 1) (hu : 0 < u) (hr : Root (pzs ps) u z) : verE ps (fN (Rat.divInt z u)) (fD (Rat.divInt z u)) (fN (Rat.divInt (topZ (pzs ps) u z) u)) (fD (Rat.divInt (topZ (pzs ps) u z) u)) = 0 := by
  have h1 := divInt_nn hr.nn hu
  have h2 := divInt_le' (u := u) (top_le (l := pzs ps) (u := u) (z := z)).1 hu
  have h3 := hr.low
  have h4 := hr.high
  unfold verE
  rw [if_neg (by rintro (h | h | h); exact h h0; exact h (fr_isFr _); exact h (fr_isFr _)), fv_frac, fv_frac, if_neg (by grind), if_neg (by grind), if_neg (fun h => h hc), if_neg (by rintro (h | h) <;> omega)]
theorem proved_plain {l : List PZ} {a u z z' : Int} (hl : UpL a l) (hc : chN (sumsL 0 l) = 1) (hu : 0 < u) (h : Root l u z) (h' : Root l (10 * u) z') :
    Rat.divInt z u ≤ Rat.divInt z' (10 * u) ∧ Rat.divInt (topZ l (10 * u) z') (10 * u) ≤ Rat.divInt (topZ l u z) u ∧ (Rat.divInt (topZ l u z) u - Rat.divInt z u = Rat.divInt 1 u ∨ Rat.divInt (topZ l u z) u = Rat.divInt z u) := by
  obtain ⟨t1, t2⟩ := Root.ten hl hc hu h h'
  have hu10 : 0 < 10 * u := by omega
  refine ⟨?_, ?_, ?_⟩
  · have := divInt_le' (u := 10 * u) t1 hu10
    rwa [divInt_ten (by decide)] at this
  · have := divInt_le' (u := 10 * u) t2 hu10
    rwa [divInt_ten (by decide)] at this
  · unfold topZ
    split
    · exact .inr rfl
    · left
      rw [Rat.divInt_eq_div, Rat.divInt_eq_div, Rat.divInt_eq_div, Rat.intCast_add, Rat.div_def, Rat.div_def, Rat.div_def]
      grind
theorem whole_div {z u : Int} (hu : 0 < u) : Rat.divInt z u * (u : Rat) = (z : Rat) := by
  rw [Rat.divInt_eq_div]
  exact Rat.div_mul_cancel (fun h => by have h2 : (u : Rat) = ((0 : Int) : Rat) := h; have := Rat.intCast_inj.1 h2; omega)
theorem mod5 (m : Int) : 0 ≤ m % 5 ∧ m % 5 ≤ 4 := by omega
theorem u_next {p : Int} (h : 0 ≤ p) : ((10 ^ (p + 1).toNat : Nat) : Int) = 10 * ((10 ^ p.toNat : Nat) : Int) := by
  rw [show (p + 1).toNat = p.toNat + 1 by omega, Nat.pow_succ]; omega
set_option maxHeartbeats 8000000 in
set_option maxRecDepth 100000 in
theorem mproved_law (A : Option Addr) (ps : List Pay) (n c : Nat) (m : Int) (hm0 : 0 ≤ m) (hm1 : m ≤ 255) (w : World) (hG : Glob w) (hn : ps.length = n) (hnm : n ≤ 9223372036854775807) (hI : PayAt w A ps) :
    Calls Tryz.prog 7 #[.slice A n c, .int .u8 m] w fun e w' => e = .returned (.bool true) ∧ Below w.heap.size w w' := by
  have CW := Lib.hid wAwake47
  have HI := Lib.hid hI
  have hb := Below.refl w.heap.size w
  clear hI
  go_enter Tryz.func7, Tryz.ntmps7
  go_wp2_with fail
  ((with_reducible refine (wFine A ps n c _ hG hn hnm HI.out).mono ?_); rintro e w1 ⟨g, rfl, hgd, hb1⟩)
  replace hb := bto hb hb1
  clear hb1
  cases g
  · clear hgd
    go_wp2_with fail
    ((with_reducible refine (CW.out.of hG hb).mono ?_); rintro e w2 ⟨rfl, hb2⟩)
    replace hb := bto hb hb2
    clear hb2
    go_wp2
    go_ret
    exact ⟨rfl, hb⟩
  obtain ⟨hgood, hok, hch⟩ := hgd rfl
  clear hgd hn hnm
  obtain ⟨p1, p2⟩ := mod5 m
  go_wp2_with fail
  have hp1 : 0 ≤ m % 5 + 1 := by omega
  have hn8 : n ≤ 8 := by
    obtain ⟨-, h2, -⟩ := payE_ok hok
    have := hgood.sz; have := hgood.len; omega
  obtain ⟨-, -, hu, -⟩ := payE_ok hok
  obtain ⟨z, hz⟩ := root_is (pzs ps) 0 ((10 ^ (m % 5).toNat : Nat) : Int) hu hch (u_pos _)
  obtain ⟨z', hz'⟩ := root_is (pzs ps) 0 ((10 ^ (m % 5 + 1).toNat : Nat) : Int) hu hch (u_pos _)
  have hB := bnd_good hgood hn8 hok p1 (by omega) hz
  have hB' := bnd_good hgood hn8 hok hp1 (by omega) hz'
  have HP := Lib.hid (hgood.pl HI.out)
  have C1 : RetB w 14 #[.slice A n c, .int .i64 (m % 5)] (bndV ps (m % 5) z) := fun w' hb => mwBounds_ok A ps n c _ z 41 w' (hG.below hb) (HP.out.below hb) hok p1 (by omega) hch hB
  have C2 : RetB w 14 #[.slice A n c, .int .i64 (m % 5 + 1)] (bndV ps (m % 5 + 1) z') := fun w' hb => mwBounds_ok A ps n c _ z' 41 w' (hG.below hb) (HP.out.below hb) hok hp1 (by omega) hch hB'
  have v1 : bndV ps (m % 5) z = .tuple #[(Value.agg #[Value.string ⟨List.toArray (fN (Rat.divInt z ((10 ^ (m % 5).toNat : Nat) : Int)))⟩, Value.string ⟨List.toArray (fD (Rat.divInt z ((10 ^ (m % 5).toNat : Nat) : Int)))⟩]), (Value.agg #[Value.string ⟨List.toArray (fN (Rat.divInt (topZ (pzs ps) ((10 ^ (m % 5).toNat : Nat) : Int) z) ((10 ^ (m % 5).toNat : Nat) : Int)))⟩, Value.string ⟨List.toArray (fD (Rat.divInt (topZ (pzs ps) ((10 ^ (m % 5).toNat : Nat) : Int) z) ((10 ^ (m % 5).toNat : Nat) : Int)))⟩]), .int .i64 0] := by
    unfold bndV; rw [if_neg (fun h => h hok), if_neg (by omega), if_neg (fun h => h hch)]
  have v2 : bndV ps (m % 5 + 1) z' = .tuple #[(Value.agg #[Value.string ⟨List.toArray (fN (Rat.divInt z' ((10 ^ (m % 5 + 1).toNat : Nat) : Int)))⟩, Value.string ⟨List.toArray (fD (Rat.divInt z' ((10 ^ (m % 5 + 1).toNat : Nat) : Int)))⟩]), (Value.agg #[Value.string ⟨List.toArray (fN (Rat.divInt (topZ (pzs ps) ((10 ^ (m % 5 + 1).toNat : Nat) : Int) z') ((10 ^ (m % 5 + 1).toNat : Nat) : Int)))⟩, Value.string ⟨List.toArray (fD (Rat.divInt (topZ (pzs ps) ((10 ^ (m % 5 + 1).toNat : Nat) : Int) z') ((10 ^ (m % 5 + 1).toNat : Nat) : Int)))⟩]), .int .i64 0] := by
    unfold bndV; rw [if_neg (fun h => h hok), if_neg (by omega), if_neg (fun h => h hch)]
  have hval := hB.val
  have hval' := hB'.val
  have hlen := hB.len
  have hlen' := hB'.len
  rw [v1] at C1
  rw [v2] at C2
  rw [u_next p1] at C2 hz' hval'
  have hu0 := u_pos (m % 5)
  have C3 := Lib.hid (niPower (l := [49, 48]) (by decide) (n := (m % 5).toNat) (by omega) (ten_u (m % 5)))
  rw [show (((m % 5).toNat : Nat) : Int) = m % 5 by omega] at C3
  have hu9 : (((10 ^ (m % 5).toNat : Nat) : Int)).natAbs < 10 ^ 5 := by rw [Int.natAbs_natCast]; exact Nat.pow_lt_pow_right (by decide) (by omega)
  generalize ((10 ^ (m % 5).toNat : Nat) : Int) = u at *
  generalize m % 5 = pp at *
  have hul : (canon u).length ≤ 10 := Nat.le_trans (canon_len_le u 5 hu9) (by decide)
  obtain ⟨f1, f2, f3⟩ := proved_plain hu hch hu0 hz hz'
  have ve1 := ver_ok hok hch hu0 hz
  have ve2 := ver_ok hok hch (u := 10 * u) (by omega) hz'
  have hzn := hz.nn
  have hzn' := hz'.nn
  obtain ⟨tp1, tp2⟩ := top_le (l := pzs ps) (u := u) (z := z)
  obtain ⟨tp3, tp4⟩ := top_le (l := pzs ps) (u := 10 * u) (z := z')
  generalize topZ (pzs ps) u z = top at *
  generalize topZ (pzs ps) (10 * u) z' = top' at *
  have B1 : Bd 41 (Rat.divInt z u) := bd_divInt (by omega) (by omega) (by omega)
  have B2 : Bd 41 (Rat.divInt top u) := bd_divInt (by omega) (by omega) (by omega)
  have B3 : Bd 41 (Rat.divInt z' (10 * u)) := bd_divInt (by omega) (by omega) (by omega)
  have B4 : Bd 41 (Rat.divInt top' (10 * u)) := bd_divInt (by omega) (by omega) (by omega)
  have B5 : Bd 6 (Rat.divInt 1 u) := bd_divInt (by omega) (by omega) (by omega)
  have hV : ∀ {y v : Int} (hv : 0 < v) (hy : ∀ y, 1 ≤ y → y ≤ 2 * y + 2 → True), True := fun _ _ => trivial
  clear hV
  have nz : ∀ {y v : Int}, 0 < v → 0 ≤ y → 0 < Rat.divInt y v → 1 ≤ y := fun {y v} hv hy h => by
    by_cases h0 : y = 0
    · rw [h0, divInt_zero'] at h; exact absurd h (by decide)
    · omega
  have C4 : RetB w 34 #[.slice A n c, (Value.agg #[Value.string ⟨List.toArray (fN (Rat.divInt z u))⟩, Value.string ⟨List.toArray (fD (Rat.divInt z u))⟩]), (Value.agg #[Value.string ⟨List.toArray (fN (Rat.divInt top u))⟩, Value.string ⟨List.toArray (fD (Rat.divInt top u))⟩])] (.int .i64 0) := fun w' hb => by
    have := mwVerify A ps n c (fN (Rat.divInt z u)) (fD (Rat.divInt z u)) (fN (Rat.divInt top u)) (fD (Rat.divInt top u)) w' (hG.below hb) (HP.out.below hb) (by have := (bd_len B1).1; omega) (by have := (bd_len B1).2; omega) (by have := (bd_len B2).1; omega) (by have := (bd_len B2).2; omega) (fun _ h => by rw [fv_frac] at h ⊢; exact hval z (nz hu0 hzn h) (by omega)) (fun _ h => by rw [fv_frac] at h ⊢; exact hval top (nz hu0 (by omega) h) (by omega))
    rwa [ve1] at this
  have C5 : RetB w 34 #[.slice A n c, (Value.agg #[Value.string ⟨List.toArray (fN (Rat.divInt z' (10 * u)))⟩, Value.string ⟨List.toArray (fD (Rat.divInt z' (10 * u)))⟩]), (Value.agg #[Value.string ⟨List.toArray (fN (Rat.divInt top' (10 * u)))⟩, Value.string ⟨List.toArray (fD (Rat.divInt top' (10 * u)))⟩])] (.int .i64 0) := fun w' hb => by
    have := mwVerify A ps n c (fN (Rat.divInt z' (10 * u))) (fD (Rat.divInt z' (10 * u))) (fN (Rat.divInt top' (10 * u))) (fD (Rat.divInt top' (10 * u))) w' (hG.below hb) (HP.out.below hb) (by have := (bd_len B3).1; omega) (by have := (bd_len B3).2; omega) (by have := (bd_len B4).1; omega) (by have := (bd_len B4).2; omega) (fun _ h => by rw [fv_frac] at h ⊢; exact hval' z' (nz (by omega) hzn' h) (by omega)) (fun _ h => by rw [fv_frac] at h ⊢; exact hval' top' (nz (by omega) (by omega) h) (by omega))
    rwa [ve2] at this
  have C6 := Lib.hid (rNew (l := [49]) (l' := canon u) (by decide) (by omega) (by rw [val_canon]; omega) (show _ = Rat.divInt 1 u by rw [val_canon]; rfl))
  have C7 := Lib.hid (rSub (isq_fr B2 (by decide)) (isq_fr B1 (by decide)) (rfl : Rat.divInt top u - Rat.divInt z u = _))
  have C8 := Lib.hid (rOf (l := canon u) (by omega) (show _ = u from val_canon u))
  have C9 := Lib.hid (rMul (isq_fr B1 (by decide)) (isq_fr (bd_int (a := u) (k := 5) hu9 (by decide)) (by decide)) (whole_div hu0))
  have C10 := Lib.hid (rParts (isq_fr (bd_int (a := z) (k := 41) (by omega) (by decide)) (by decide)))
  rw [show canon (((z : Rat).den : Nat) : Int) = [49] from (by rw [show ((z : Rat).den) = 1 from rfl]; decide +kernel)] at C10
  have C11 := Lib.hid (rCompare (isq_fr (bd_sub B2 B1) (by decide)) (isq_fr B5 (by decide)) rfl)
  have C12 := Lib.hid (rCompare (isq_fr B1 (by decide)) (isq_fr B3 (by decide)) rfl)
  have C13 := Lib.hid (rCompare (isq_fr B4 (by decide)) (isq_fr B2 (by decide)) rfl)
  have e12 : decide (cmpQ (Rat.divInt z u) (Rat.divInt z' (10 * u)) ≤ 0) = true := decide_eq_true ((cmpQ_le _ _).2 f1)
  have e13 : decide (cmpQ (Rat.divInt top' (10 * u)) (Rat.divInt top u) ≤ 0) = true := decide_eq_true ((cmpQ_le _ _).2 f2)
  have HC1 := Lib.hid C1
  have HC2 := Lib.hid C2
  have HC4 := Lib.hid C4
  have HC5 := Lib.hid C5
  generalize cmpQ (Rat.divInt z u) (Rat.divInt z' (10 * u)) = s12 at *
  generalize cmpQ (Rat.divInt top' (10 * u)) (Rat.divInt top u) = s13 at *
  have F3 : Hid (cmpQ (Rat.divInt top u - Rat.divInt z u) (Rat.divInt 1 u) = 0 ∨ (cmpQ (Rat.divInt top u - Rat.divInt z u) (Rat.divInt 1 u) ≠ 0 ∧ Rat.divInt top u = Rat.divInt z u)) := by
    show _ ∨ _
    by_cases h : cmpQ (Rat.divInt top u - Rat.divInt z u) (Rat.divInt 1 u) = 0
    · exact .inl h
    · refine .inr ⟨h, ?_⟩
      rcases f3 with h3 | h3
      · exact absurd ((cmpQ_eq _ _).2 h3) h
      · exact h3
  generalize cmpQ (Rat.divInt top u - Rat.divInt z u) (Rat.divInt 1 u) = s11 at *
  generalize Rat.divInt top u - Rat.divInt z u = q7 at *
  generalize Rat.divInt 1 u = q6 at *
  generalize Rat.divInt z' (10 * u) = q3 at *
  generalize Rat.divInt top' (10 * u) = q4 at *
  generalize Rat.divInt z u = q1 at *
  generalize Rat.divInt top u = q2 at *
  have hpn : pp ≤ 4 := p2
  have hpn0 : 0 ≤ pp := p1
  clear C1 C2 C4 C5 nz B1 B2 B3 B4 B5 f1 f2 f3 ve1 ve2 hval hval' v1 v2 hB hB' hz hz' hu hch hok hgood hn8 hlen hlen' hu9 hul tp1 tp2 tp3 tp4 hzn hzn' p1 p2 hp1 HI HP hu0
  ((with_reducible refine (HC1.out.of hG hb).mono ?_); rintro e w2 ⟨rfl, hb2⟩)
  replace hb := bto hb hb2
  clear hb2
  have x6 := FBox.new w2 (.string ⟨(fN q1).toArray⟩) (.string ⟨(fD q1).toArray⟩) 30
  have hbA := below_alloc w2 (.cells #[.string ⟨(fN q1).toArray⟩, .string ⟨(fD q1).toArray⟩] 30)
  replace hb := bto hb hbA
  clear hbA
  have x7 := FBox.new (w2.alloc (.cells #[.string ⟨(fN q1).toArray⟩, .string ⟨(fD q1).toArray⟩] 30)) (.string ⟨(fN q2).toArray⟩) (.string ⟨(fD q2).toArray⟩) 30
  have hbA := below_alloc (w2.alloc (.cells #[.string ⟨(fN q1).toArray⟩, .string ⟨(fD q1).toArray⟩] 30)) (.cells #[.string ⟨(fN q2).toArray⟩, .string ⟨(fD q2).toArray⟩] 30)
  replace x6 := x6.below hbA
  replace hb := bto hb hbA
  clear hbA
  simp only [World.size_alloc] at x6 x7
  go_wp2_with fail
  ((with_reducible refine (HC2.out.of hG hb).mono ?_); rintro e w3 ⟨rfl, hb3⟩)
  replace x6 := x6.below hb3
  replace x7 := x7.below hb3
  replace hb := bto hb hb3
  clear hb3
  have x9 := FBox.new w3 (.string ⟨(fN q3).toArray⟩) (.string ⟨(fD q3).toArray⟩) 30
  have hbA := below_alloc w3 (.cells #[.string ⟨(fN q3).toArray⟩, .string ⟨(fD q3).toArray⟩] 30)
  replace x6 := x6.below hbA
  replace x7 := x7.below hbA
  replace hb := bto hb hbA
  clear hbA
  have x10 := FBox.new (w3.alloc (.cells #[.string ⟨(fN q3).toArray⟩, .string ⟨(fD q3).toArray⟩] 30)) (.string ⟨(fN q4).toArray⟩) (.string ⟨(fD q4).toArray⟩) 30
  have hbA := below_alloc (w3.alloc (.cells #[.string ⟨(fN q3).toArray⟩, .string ⟨(fD q3).toArray⟩] 30)) (.cells #[.string ⟨(fN q4).toArray⟩, .string ⟨(fD q4).toArray⟩] 30)
  replace x6 := x6.below hbA
  replace x7 := x7.below hbA
  replace x9 := x9.below hbA
  replace hb := bto hb hbA
  clear hbA
  simp only [World.size_alloc] at x6 x7 x9 x10
  go_wp2_with fail
  ((with_reducible refine (C3.out.of hG hb).mono ?_); rintro e w4 ⟨rfl, hb4⟩)
  replace x6 := x6.below hb4
  replace x7 := x7.below hb4
  replace x9 := x9.below hb4
  replace x10 := x10.below hb4
  replace hb := bto hb hb4
  clear hb4
  go_wp2_with fail
  ((with_reducible refine (C6.out.of hG hb).mono ?_); rintro e w5 ⟨rfl, hb5⟩)
  replace x6 := x6.below hb5
  replace x7 := x7.below hb5
  replace x9 := x9.below hb5
  replace x10 := x10.below hb5
  replace hb := bto hb hb5
  clear hb5
  replace x6 := x6.below (below_alloc w5 (.cells #[.string ⟨(fN q6).toArray⟩, .string ⟨(fD q6).toArray⟩] 30))
  replace x7 := x7.below (below_alloc w5 (.cells #[.string ⟨(fN q6).toArray⟩, .string ⟨(fD q6).toArray⟩] 30))
  replace x9 := x9.below (below_alloc w5 (.cells #[.string ⟨(fN q6).toArray⟩, .string ⟨(fD q6).toArray⟩] 30))
  replace x10 := x10.below (below_alloc w5 (.cells #[.string ⟨(fN q6).toArray⟩, .string ⟨(fD q6).toArray⟩] 30))
  have x14 := FBox.new w5 (.string ⟨(fN q6).toArray⟩) (.string ⟨(fD q6).toArray⟩) 30
  replace hb := bto hb (below_alloc w5 (.cells #[.string ⟨(fN q6).toArray⟩, .string ⟨(fD q6).toArray⟩] 30))
  have qx6_0 := x6.c0
  have qx6_1 := x6.c1
  have qx7_0 := x7.c0
  have qx7_1 := x7.c1
  go_wp2_with fail
  ((with_reducible refine (HC4.out.of hG hb).mono ?_); rintro e w6 ⟨rfl, hb6⟩)
  clear qx6_0 qx6_1 qx7_0 qx7_1
  replace x6 := x6.below hb6
  replace x7 := x7.below hb6
  replace x9 := x9.below hb6
  replace x10 := x10.below hb6
  replace x14 := x14.below hb6
  replace hb := bto hb hb6
  clear hb6
  have qx9_0 := x9.c0
  have qx9_1 := x9.c1
  have qx10_0 := x10.c0
  have qx10_1 := x10.c1
  go_wp2_with fail
  ((with_reducible refine (HC5.out.of hG hb).mono ?_); rintro e w7 ⟨rfl, hb7⟩)
  clear qx9_0 qx9_1 qx10_0 qx10_1
  replace x6 := x6.below hb7
  replace x7 := x7.below hb7
  replace x9 := x9.below hb7
  replace x10 := x10.below hb7
  replace x14 := x14.below hb7
  replace hb := bto hb hb7
  clear hb7
  have qx7_0 := x7.c0
  have qx7_1 := x7.c1
  have qx6_0 := x6.c0
  have qx6_1 := x6.c1
  go_wp2_with fail
  ((with_reducible refine (C7.out.of hG hb).mono ?_); rintro e w8 ⟨rfl, hb8⟩)
  clear qx7_0 qx7_1 qx6_0 qx6_1
  replace x6 := x6.below hb8
  replace x7 := x7.below hb8
  replace x9 := x9.below hb8
  replace x10 := x10.below hb8
  replace x14 := x14.below hb8
  replace hb := bto hb hb8
  clear hb8
  replace x6 := x6.below (below_alloc w8 (.cells #[.string ⟨(fN q7).toArray⟩, .string ⟨(fD q7).toArray⟩] 30))
  replace x7 := x7.below (below_alloc w8 (.cells #[.string ⟨(fN q7).toArray⟩, .string ⟨(fD q7).toArray⟩] 30))
  replace x9 := x9.below (below_alloc w8 (.cells #[.string ⟨(fN q7).toArray⟩, .string ⟨(fD q7).toArray⟩] 30))
  replace x10 := x10.below (below_alloc w8 (.cells #[.string ⟨(fN q7).toArray⟩, .string ⟨(fD q7).toArray⟩] 30))
  replace x14 := x14.below (below_alloc w8 (.cells #[.string ⟨(fN q7).toArray⟩, .string ⟨(fD q7).toArray⟩] 30))
  have x16 := FBox.new w8 (.string ⟨(fN q7).toArray⟩) (.string ⟨(fD q7).toArray⟩) 30
  replace hb := bto hb (below_alloc w8 (.cells #[.string ⟨(fN q7).toArray⟩, .string ⟨(fD q7).toArray⟩] 30))
  go_wp2_with fail
  refine wp_region_kept (by kernel_rfl) (by kernel_rfl) ?_
  refine kept_val _ (fun _ => rfl) (fun ρ w hw => by have q0 := (x6.below hw).c0; have q1 := (x6.below hw).c1; go_simp; first | done | with_reducible rfl) ?_
  simp only [Act.put, List.setIfInBounds_toArray, List.set_cons_zero, List.set_cons_succ, Nat.reduceAdd]
  refine kept_val _ (fun _ => rfl) (fun ρ w hw => by go_simp; first | done | with_reducible rfl) ?_
  simp only [Act.put, List.setIfInBounds_toArray, List.set_cons_zero, List.set_cons_succ, Nat.reduceAdd]
  refine kept_call _ _ _ (fun _ => rfl) (fun ρ w hw => by go_simp; first | done | with_reducible rfl) (fun w hw => C8.out.of hG (bto hb hw)) ?_
  simp only [Act.put, List.setIfInBounds_toArray, List.set_cons_zero, List.set_cons_succ, Nat.reduceAdd]
  refine kept_call _ _ _ (fun _ => rfl) (fun ρ w hw => by go_simp; first | done | with_reducible rfl) (fun w hw => C9.out.of hG (bto hb hw)) ?_
  simp only [Act.put, List.setIfInBounds_toArray, List.set_cons_zero, List.set_cons_succ, Nat.reduceAdd]
  refine kept_call _ _ _ (fun _ => rfl) (fun ρ w hw => by go_simp; first | done | with_reducible rfl) (fun w hw => C10.out.of hG (bto hb hw)) ?_
  simp only [Act.put, List.setIfInBounds_toArray, List.set_cons_zero, List.set_cons_succ, Nat.reduceAdd]
  refine kept_val _ (fun _ => rfl) (fun ρ w hw => by go_simp; first | done | with_reducible rfl) ?_
  simp only [Act.put, List.setIfInBounds_toArray, List.set_cons_zero, List.set_cons_succ, Nat.reduceAdd]
  refine kept_val _ (fun _ => rfl) (fun ρ w hw => by go_simp; first | done | with_reducible rfl) ?_
  simp only [Act.put, List.setIfInBounds_toArray, List.set_cons_zero, List.set_cons_succ, Nat.reduceAdd]
  refine kept_val _ (fun _ => rfl) (fun ρ w hw => by go_simp; first | done | with_reducible rfl) ?_
  simp only [Act.put, List.setIfInBounds_toArray, List.set_cons_zero, List.set_cons_succ, Nat.reduceAdd]
  refine kept_val _ (fun _ => rfl) (fun ρ w hw => by go_simp; first | done | with_reducible rfl) ?_
  simp only [Act.put, List.setIfInBounds_toArray, List.set_cons_zero, List.set_cons_succ, Nat.reduceAdd]
  refine kept_val _ (fun _ => rfl) (fun ρ w hw => by go_simp; first | done | with_reducible rfl) ?_
  simp only [Act.put, List.setIfInBounds_toArray, List.set_cons_zero, List.set_cons_succ, Nat.reduceAdd]
  refine kept_end (fun ρ w9 hF => ?_)
  replace x6 := x6.below hF.below
  replace x7 := x7.below hF.below
  replace x9 := x9.below hF.below
  replace x10 := x10.below hF.below
  replace x14 := x14.below hF.below
  replace x16 := x16.below hF.below
  replace hb := bto hb hF.below
  clear hF
  have qx16_0 := x16.c0
  have qx16_1 := x16.c1
  have qx14_0 := x14.c0
  have qx14_1 := x14.c1
  go_wp2_with fail
  ((with_reducible refine (C11.out.of hG hb).mono ?_); rintro e w10 ⟨rfl, hb10⟩)
  clear qx16_0 qx16_1 qx14_0 qx14_1
  replace x6 := x6.below hb10
  replace x7 := x7.below hb10
  replace x9 := x9.below hb10
  replace x10 := x10.below hb10
  replace x14 := x14.below hb10
  replace x16 := x16.below hb10
  replace hb := bto hb hb10
  clear hb10
  rcases F3.out with h11 | ⟨h11, hq⟩
  · have e11 := intbeq h11
    clear h11 F3
    have qx6_0 := x6.c0
    have qx6_1 := x6.c1
    have qx9_0 := x9.c0
    have qx9_1 := x9.c1
    go_wp2_with fail
    ((with_reducible refine (C12.out.of hG hb).mono ?_); rintro e w11 ⟨rfl, hb11⟩)
    clear qx6_0 qx6_1 qx9_0 qx9_1
    replace x6 := x6.below hb11
    replace x7 := x7.below hb11
    replace x9 := x9.below hb11
    replace x10 := x10.below hb11
    replace x14 := x14.below hb11
    replace x16 := x16.below hb11
    replace hb := bto hb hb11
    clear hb11
    have qx10_0 := x10.c0
    have qx10_1 := x10.c1
    have qx7_0 := x7.c0
    have qx7_1 := x7.c1
    go_wp2_with fail
    ((with_reducible refine (C13.out.of hG hb).mono ?_); rintro e w12 ⟨rfl, hb12⟩)
    clear qx10_0 qx10_1 qx7_0 qx7_1
    replace x6 := x6.below hb12
    replace x7 := x7.below hb12
    replace x9 := x9.below hb12
    replace x10 := x10.below hb12
    replace x14 := x14.below hb12
    replace x16 := x16.below hb12
    replace hb := bto hb hb12
    clear hb12
    clear x6
    clear x7
    clear x9
    clear x10
    clear x14
    clear x16
    go_wp2_with fail
    ((with_reducible refine (CW.out.of hG hb).mono ?_); rintro e w13 ⟨rfl, hb13⟩)
    replace hb := bto hb hb13
    clear hb13
    go_wp2
    go_ret
    exact ⟨rfl, hb⟩
  · have e11 := intbne h11
    subst hq
    clear h11 F3
    have qx6_0 := x6.c0
    have qx6_1 := x6.c1
    have qx7_0 := x7.c0
    have qx7_1 := x7.c1
    have qx9_0 := x9.c0
    have qx9_1 := x9.c1
    go_wp2_with fail
    ((with_reducible refine (C12.out.of hG hb).mono ?_); rintro e w11 ⟨rfl, hb11⟩)
    clear qx6_0 qx6_1 qx7_0 qx7_1 qx9_0 qx9_1
    replace x6 := x6.below hb11
    replace x7 := x7.below hb11
    replace x9 := x9.below hb11
    replace x10 := x10.below hb11
    replace x14 := x14.below hb11
    replace x16 := x16.below hb11
    replace hb := bto hb hb11
    clear hb11
    have qx10_0 := x10.c0
    have qx10_1 := x10.c1
    have qx7_0 := x7.c0
    have qx7_1 := x7.c1
    go_wp2_with fail
    ((with_reducible refine (C13.out.of hG hb).mono ?_); rintro e w12 ⟨rfl, hb12⟩)
    clear qx10_0 qx10_1 qx7_0 qx7_1
    replace x6 := x6.below hb12
    replace x7 := x7.below hb12
    replace x9 := x9.below hb12
    replace x10 := x10.below hb12
    replace x14 := x14.below hb12
    replace x16 := x16.below hb12
    replace hb := bto hb hb12
    clear hb12
    clear x6
    clear x7
    clear x9
    clear x10
    clear x14
    clear x16
    go_wp2_with fail
    ((with_reducible refine (CW.out.of hG hb).mono ?_); rintro e w13 ⟨rfl, hb13⟩)
    replace hb := bto hb hb13
    clear hb13
    go_wp2
    go_ret
    exact ⟨rfl, hb⟩
end Go.Proofs.YtolbojchdlojnaaGreatDoor
