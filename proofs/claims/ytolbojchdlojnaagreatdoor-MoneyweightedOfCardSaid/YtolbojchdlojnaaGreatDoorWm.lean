/- Verify: package moneyweighted and trancheref47. -/
import Derived.Test.YtolbojchdlojnaaGreatDoorWl
namespace Go.Proofs.YtolbojchdlojnaaGreatDoor
open Go.RowKit Num
abbrev isFr (l l' : List UInt8) : Prop := l = fN (fv l l') ∧ l' = fD (fv l l')
/-- what Verify returns -/
def verE (ps : List Pay) (l l' k k' : List UInt8) : Int := if ¬ payE ps = 0 ∨ ¬ isFr l l' ∨ ¬ isFr k k' then 1 else if fv l l' < 0 then 2 else if fv k k' < fv l l' then 8 else if ¬ chN (sumsL 0 (pzs ps)) = 1 then 25
  else if 0 < placeQ (sg1 (sumsL 0 (pzs ps))) (pzs ps) (fv l l') ∨ placeQ (sg1 (sumsL 0 (pzs ps))) (pzs ps) (fv k k') < 0 then 20 else 0
theorem cmpQ_pos' (p q : Rat) : 0 < cmpQ p q ↔ q < p := by
  have h1 := cmpQ_le p q
  constructor
  · intro h
    by_cases h2 : q < p
    · exact h2
    · have := h1.2 (by grind); omega
  · intro h
    have h2 : ¬ cmpQ p q ≤ 0 := fun h3 => by have := h1.1 h3; grind
    omega
set_option maxHeartbeats 4000000 in
set_option maxRecDepth 100000 in
theorem mwVerify (A : Option Addr) (ps : List Pay) (n c : Nat) (l l' k k' : List UInt8) (w : World) (hG : Glob w) (h : PL w A ps n) (hl : l.length ≤ 60) (hl' : l'.length ≤ 60) (hk : k.length ≤ 60) (hk' : k'.length ≤ 60)
    (hV : payE ps = 0 → 0 < fv l l' → ValAt ps (fv l l')) (hW : payE ps = 0 → 0 < fv k k' → ValAt ps (fv k k')) :
    Calls Tryz.prog 34 #[.slice A n c, (Value.agg #[Value.string ⟨List.toArray l⟩, Value.string ⟨List.toArray l'⟩]), (Value.agg #[Value.string ⟨List.toArray k⟩, Value.string ⟨List.toArray k'⟩])] w fun e w' => e = .returned (.int .i64 (verE ps l l' k k')) ∧ Below w.heap.size w w' := by
  have C1 := Lib.hid (mwCheckB hG h c)
  have C2 := Lib.hid (rCheck (isq_raw hl hl' (by decide)) rfl)
  have C3 := Lib.hid (rCheck (isq_raw hk hk' (by decide)) rfl)
  have C4 := Lib.hid (rCompare (isq_raw hl hl' (by decide)) isq_zero rfl)
  have C5 := Lib.hid (rCompare (isq_raw hl hl' (by decide)) (isq_raw hk hk' (by decide)) rfl)
  have x4 := (FBox.new w (.string ⟨l.toArray⟩) (.string ⟨l'.toArray⟩) 30).below (below_alloc _ (.cells #[.string ⟨k.toArray⟩, .string ⟨k'.toArray⟩] 30))
  have x5 := FBox.new (w.alloc (.cells #[.string ⟨l.toArray⟩, .string ⟨l'.toArray⟩] 30)) (.string ⟨k.toArray⟩) (.string ⟨k'.toArray⟩) 30
  have hb := bto (below_alloc w (.cells #[.string ⟨l.toArray⟩, .string ⟨l'.toArray⟩] 30)) (below_alloc _ (.cells #[.string ⟨k.toArray⟩, .string ⟨k'.toArray⟩] 30))
  simp only [World.size_alloc] at x5
  have q0 := x4.c0
  have q1 := x4.c1
  have q2 := x5.c0
  have q3 := x5.c1
  have HH := Lib.hid h
  have HVV := Lib.hid hV
  have HWW := Lib.hid hW
  clear h hV hW hl hl' hk hk'
  by_cases g1 : payE ps = 0
  rotate_left
  · have HV : Hid (verE ps l l' k k' = 1) := if_pos (.inl g1)
    have e1 : (payE ps != 0) = true := bneq' (intbne g1)
    generalize payE ps = E at *
    clear g1
    go_enter Tryz.func34, Tryz.ntmps34
    go_wp2_with fail
    ((with_reducible refine (C1.out.of hG hb).mono ?_); rintro e w1 ⟨rfl, hb1⟩)
    replace x4 := x4.below hb1
    replace x5 := x5.below hb1
    replace q0 := x4.c0
    replace q1 := x4.c1
    replace q2 := x5.c0
    replace q3 := x5.c1
    replace hb := bto hb hb1
    clear hb1
    go_wp2
    go_ret
    exact ⟨reti HV.out.symm, hb⟩
  rw [g1] at C1
  by_cases g2 : isFr l l'
  rotate_left
  · have HV : Hid (verE ps l l' k k' = 1) := if_pos (.inr (.inl g2))
    rw [if_neg g2] at C2
    clear g1 g2
    go_enter Tryz.func34, Tryz.ntmps34
    go_wp2_with fail
    ((with_reducible refine (C1.out.of hG hb).mono ?_); rintro e w1 ⟨rfl, hb1⟩)
    replace x4 := x4.below hb1
    replace x5 := x5.below hb1
    replace q0 := x4.c0
    replace q1 := x4.c1
    replace q2 := x5.c0
    replace q3 := x5.c1
    replace hb := bto hb hb1
    clear hb1
    go_wp2_with fail
    ((with_reducible refine (C2.out.of hG hb).mono ?_); rintro e w2 ⟨rfl, hb2⟩)
    replace x4 := x4.below hb2
    replace x5 := x5.below hb2
    replace q0 := x4.c0
    replace q1 := x4.c1
    replace q2 := x5.c0
    replace q3 := x5.c1
    replace hb := bto hb hb2
    clear hb2
    go_wp2
    go_ret
    exact ⟨reti HV.out.symm, hb⟩
  rw [if_pos g2] at C2
  by_cases g3 : isFr k k'
  rotate_left
  · have HV : Hid (verE ps l l' k k' = 1) := if_pos (.inr (.inr g3))
    rw [if_neg g3] at C3
    clear g1 g2 g3
    go_enter Tryz.func34, Tryz.ntmps34
    go_wp2_with fail
    ((with_reducible refine (C1.out.of hG hb).mono ?_); rintro e w1 ⟨rfl, hb1⟩)
    replace x4 := x4.below hb1
    replace x5 := x5.below hb1
    replace q0 := x4.c0
    replace q1 := x4.c1
    replace q2 := x5.c0
    replace q3 := x5.c1
    replace hb := bto hb hb1
    clear hb1
    go_wp2_with fail
    ((with_reducible refine (C2.out.of hG hb).mono ?_); rintro e w2 ⟨rfl, hb2⟩)
    replace x4 := x4.below hb2
    replace x5 := x5.below hb2
    replace q0 := x4.c0
    replace q1 := x4.c1
    replace q2 := x5.c0
    replace q3 := x5.c1
    replace hb := bto hb hb2
    clear hb2
    go_wp2_with fail
    ((with_reducible refine (C3.out.of hG hb).mono ?_); rintro e w3 ⟨rfl, hb3⟩)
    replace x4 := x4.below hb3
    replace x5 := x5.below hb3
    replace q0 := x4.c0
    replace q1 := x4.c1
    replace q2 := x5.c0
    replace q3 := x5.c1
    replace hb := bto hb hb3
    clear hb3
    go_wp2
    go_ret
    exact ⟨reti HV.out.symm, hb⟩
  rw [if_pos g3] at C3
  have HV0 : Hid (verE ps l l' k k' = if fv l l' < 0 then 2 else if fv k k' < fv l l' then 8 else if ¬ chN (sumsL 0 (pzs ps)) = 1 then 25 else if 0 < placeQ (sg1 (sumsL 0 (pzs ps))) (pzs ps) (fv l l') ∨ placeQ (sg1 (sumsL 0 (pzs ps))) (pzs ps) (fv k k') < 0 then 20 else 0) := by
    show _ = _; unfold verE; rw [if_neg (by rintro (h | h | h); exact h g1; exact h g2; exact h g3)]
  have HG1 := Lib.hid g1
  have HFl := Lib.hid g2
  have HFk := Lib.hid g3
  obtain ⟨p, hp⟩ : ∃ p, p = fv l l' := ⟨_, rfl⟩
  obtain ⟨q, hq⟩ : ∃ q, q = fv k k' := ⟨_, rfl⟩
  have HPq := Lib.hid hp
  have HQq := Lib.hid hq
  rw [← hp] at C4 C5 HV0 HVV
  rw [← hq] at C5 HV0 HWW
  clear g1 g2 g3 hp hq
  go_enter Tryz.func34, Tryz.ntmps34
  go_wp2_with fail
  ((with_reducible refine (C1.out.of hG hb).mono ?_); rintro e w1 ⟨rfl, hb1⟩)
  replace x4 := x4.below hb1
  replace x5 := x5.below hb1
  replace q0 := x4.c0
  replace q1 := x4.c1
  replace q2 := x5.c0
  replace q3 := x5.c1
  replace hb := bto hb hb1
  clear hb1
  go_wp2_with fail
  ((with_reducible refine (C2.out.of hG hb).mono ?_); rintro e w2 ⟨rfl, hb2⟩)
  replace x4 := x4.below hb2
  replace x5 := x5.below hb2
  replace q0 := x4.c0
  replace q1 := x4.c1
  replace q2 := x5.c0
  replace q3 := x5.c1
  replace hb := bto hb hb2
  clear hb2
  go_wp2_with fail
  ((with_reducible refine (C3.out.of hG hb).mono ?_); rintro e w3 ⟨rfl, hb3⟩)
  replace x4 := x4.below hb3
  replace x5 := x5.below hb3
  replace q0 := x4.c0
  replace q1 := x4.c1
  replace q2 := x5.c0
  replace q3 := x5.c1
  replace hb := bto hb hb3
  clear hb3
  go_wp2_with fail
  ((with_reducible refine (C4.out.of hG hb).mono ?_); rintro e w4 ⟨rfl, hb4⟩)
  replace x4 := x4.below hb4
  replace x5 := x5.below hb4
  replace q0 := x4.c0
  replace q1 := x4.c1
  replace q2 := x5.c0
  replace q3 := x5.c1
  replace hb := bto hb hb4
  clear hb4
  by_cases g4 : p < 0
  · have e4 : decide (cmpQ p 0 < 0) = true := decide_eq_true ((cmpQ_neg _ _).2 g4)
    have HV : Hid (verE ps l l' k k' = 2) := by show _ = _; rw [HV0.out, if_pos g4]
    generalize cmpQ p 0 = cc at *
    go_wp2
    go_ret
    exact ⟨reti HV.out.symm, hb⟩
  have e4 : decide (cmpQ p 0 < 0) = false := decide_eq_false (fun h => g4 ((cmpQ_neg _ _).1 h))
  generalize cmpQ p 0 = cc at *
  go_wp2_with fail
  ((with_reducible refine (C5.out.of hG hb).mono ?_); rintro e w5 ⟨rfl, hb5⟩)
  replace x4 := x4.below hb5
  replace x5 := x5.below hb5
  replace q0 := x4.c0
  replace q1 := x4.c1
  replace q2 := x5.c0
  replace q3 := x5.c1
  replace hb := bto hb hb5
  clear hb5
  by_cases g5 : q < p
  · have e5 : decide (0 < cmpQ p q) = true := decide_eq_true ((cmpQ_pos' _ _).2 g5)
    have HV : Hid (verE ps l l' k k' = 8) := by show _ = _; rw [HV0.out, if_neg g4, if_pos g5]
    generalize cmpQ p q = cd at *
    go_wp2
    go_ret
    exact ⟨reti HV.out.symm, hb⟩
  have e5 : decide (0 < cmpQ p q) = false := decide_eq_false (fun h => g5 ((cmpQ_pos' _ _).1 h))
  generalize cmpQ p q = cd at *
  have C6 := Lib.hid (mwSignsB hG HH.out c)
  go_wp2_with fail
  ((with_reducible refine (C6.out.of hG hb).mono ?_); rintro e w6 ⟨rfl, hb6⟩)
  replace x4 := x4.below hb6
  replace x5 := x5.below hb6
  replace q0 := x4.c0
  replace q1 := x4.c1
  replace q2 := x5.c0
  replace q3 := x5.c1
  replace hb := bto hb hb6
  clear hb6
  by_cases g6 : chN (sumsL 0 (pzs ps)) = 1
  rotate_left
  · have e6 : (((chN (sumsL 0 (pzs ps)) : Nat) : Int) != 1) = true := bneq' (intbne (by omega))
    have HV : Hid (verE ps l l' k k' = 25) := by show _ = _; rw [HV0.out, if_neg g4, if_neg g5, if_pos g6]
    generalize ((chN (sumsL 0 (pzs ps)) : Nat) : Int) = ch at *
    go_wp2
    go_ret
    exact ⟨reti HV.out.symm, hb⟩
  have hs := sg1_cases g6
  rw [g6]
  have C7 := Lib.hid (mwPlace (q := p) hG HH.out hs (fun hne => HVV.out HG1.out (by grind)) c)
  have C8 := Lib.hid (mwPlace (q := q) hG HH.out hs (fun hne => HWW.out HG1.out (by grind)) c)
  rw [if_neg g4, if_neg g5, if_neg (fun h => h g6)] at HV0
  generalize sg1 (sumsL 0 (pzs ps)) = s at *
  obtain ⟨P, hP⟩ : ∃ P, P = placeQ s (pzs ps) p := ⟨_, rfl⟩
  obtain ⟨Q, hQ⟩ : ∃ Q, Q = placeQ s (pzs ps) q := ⟨_, rfl⟩
  rw [← hP] at C7 HV0
  rw [← hQ] at C8 HV0
  have k1 : fN p = l := by rw [HPq.out]; exact HFl.out.1.symm
  have k2 : fD p = l' := by rw [HPq.out]; exact HFl.out.2.symm
  have k3 : fN q = k := by rw [HQq.out]; exact HFk.out.1.symm
  have k4 : fD q = k' := by rw [HQq.out]; exact HFk.out.2.symm
  rw [k1, k2] at C7
  rw [k3, k4] at C8
  clear k1 k2 k3 k4
  clear g4 g5 g6 hs hP hQ e4 e5 HPq HQq
  go_wp2_with fail
  ((with_reducible refine (C7.out.of hG hb).mono ?_); rintro e w9 ⟨rfl, hb9⟩)
  replace x4 := x4.below hb9
  replace x5 := x5.below hb9
  replace q0 := x4.c0
  replace q1 := x4.c1
  replace q2 := x5.c0
  replace q3 := x5.c1
  replace hb := bto hb hb9
  clear hb9
  by_cases g7 : 0 < P
  · have e7 : decide (0 < P) = true := decide_eq_true g7
    have HV : Hid (verE ps l l' k k' = 20) := by show _ = _; rw [HV0.out, if_pos (.inl g7)]
    go_wp2
    go_ret
    exact ⟨reti HV.out.symm, hb⟩
  have e7 : decide (0 < P) = false := decide_eq_false g7
  go_wp2_with fail
  ((with_reducible refine (C8.out.of hG hb).mono ?_); rintro e w10 ⟨rfl, hb10⟩)
  replace x4 := x4.below hb10
  replace x5 := x5.below hb10
  replace q0 := x4.c0
  replace q1 := x4.c1
  replace q2 := x5.c0
  replace q3 := x5.c1
  replace hb := bto hb hb10
  clear hb10
  by_cases g8 : Q < 0
  · have e8 : decide (Q < 0) = true := decide_eq_true g8
    have HV : Hid (verE ps l l' k k' = 20) := by show _ = _; rw [HV0.out, if_pos (.inr g8)]
    go_wp2
    go_ret
    exact ⟨reti HV.out.symm, hb⟩
  have e8 : decide (Q < 0) = false := decide_eq_false g8
  have HV : Hid (verE ps l l' k k' = 0) := by show _ = _; rw [HV0.out, if_neg (fun h => by rcases h with h | h <;> omega)]
  go_wp2
  go_ret
  exact ⟨reti HV.out.symm, hb⟩
set_option maxHeartbeats 4000000 in
set_option maxRecDepth 100000 in
theorem mrVerify (A : Option Addr) (ps : List Pay) (n c : Nat) (l l' k k' : List UInt8) (w : World) (hG : Glob w) (h : PL w A ps n) (hl : l.length ≤ 60) (hl' : l'.length ≤ 60) (hk : k.length ≤ 60) (hk' : k'.length ≤ 60)
    (hV : payE ps = 0 → 0 < fv l l' → ValAt ps (fv l l')) (hW : payE ps = 0 → 0 < fv k k' → ValAt ps (fv k k')) :
    Calls Tryz.prog 35 #[.slice A n c, (Value.agg #[Value.string ⟨List.toArray l⟩, Value.string ⟨List.toArray l'⟩]), (Value.agg #[Value.string ⟨List.toArray k⟩, Value.string ⟨List.toArray k'⟩])] w fun e w' => e = .returned (.int .i64 (verE ps l l' k k')) ∧ Below w.heap.size w w' := by
  have C1 := Lib.hid (mrCheckB hG h c)
  have C2 := Lib.hid (sCheck (l := l) (l' := l') (by omega) (by omega) rfl rfl)
  have C3 := Lib.hid (sCheck (l := k) (l' := k') (by omega) (by omega) rfl rfl)
  have C4 := Lib.hid (sSign (l := l) (l' := l') (by omega) (by omega) rfl)
  have C5 := Lib.hid (sCompare (l := l) (l' := l') (k := k) (k' := k') (by omega) (by omega) (by omega) (by omega) rfl)
  have x4 := (FBox.new w (.string ⟨l.toArray⟩) (.string ⟨l'.toArray⟩) 30).below (below_alloc _ (.cells #[.string ⟨k.toArray⟩, .string ⟨k'.toArray⟩] 30))
  have x5 := FBox.new (w.alloc (.cells #[.string ⟨l.toArray⟩, .string ⟨l'.toArray⟩] 30)) (.string ⟨k.toArray⟩) (.string ⟨k'.toArray⟩) 30
  have hb := bto (below_alloc w (.cells #[.string ⟨l.toArray⟩, .string ⟨l'.toArray⟩] 30)) (below_alloc _ (.cells #[.string ⟨k.toArray⟩, .string ⟨k'.toArray⟩] 30))
  simp only [World.size_alloc] at x5
  have q0 := x4.c0
  have q1 := x4.c1
  have q2 := x5.c0
  have q3 := x5.c1
  have HH := Lib.hid h
  have HVV := Lib.hid hV
  have HWW := Lib.hid hW
  clear h hV hW hl hl' hk hk'
  by_cases g1 : payE ps = 0
  rotate_left
  · have HV : Hid (verE ps l l' k k' = 1) := if_pos (.inl g1)
    have e1 : (payE ps != 0) = true := bneq' (intbne g1)
    generalize payE ps = E at *
    clear g1
    go_enter Tryz.func35, Tryz.ntmps35
    go_wp2_with fail
    ((with_reducible refine (C1.out.of hG hb).mono ?_); rintro e w1 ⟨rfl, hb1⟩)
    replace x4 := x4.below hb1
    replace x5 := x5.below hb1
    replace q0 := x4.c0
    replace q1 := x4.c1
    replace q2 := x5.c0
    replace q3 := x5.c1
    replace hb := bto hb hb1
    clear hb1
    go_wp2
    go_ret
    exact ⟨reti HV.out.symm, hb⟩
  rw [g1] at C1
  by_cases g2 : isFr l l'
  rotate_left
  · have HV : Hid (verE ps l l' k k' = 1) := if_pos (.inr (.inl g2))
    rw [if_neg g2] at C2
    clear g1 g2
    go_enter Tryz.func35, Tryz.ntmps35
    go_wp2_with fail
    ((with_reducible refine (C1.out.of hG hb).mono ?_); rintro e w1 ⟨rfl, hb1⟩)
    replace x4 := x4.below hb1
    replace x5 := x5.below hb1
    replace q0 := x4.c0
    replace q1 := x4.c1
    replace q2 := x5.c0
    replace q3 := x5.c1
    replace hb := bto hb hb1
    clear hb1
    go_wp2_with fail
    ((with_reducible refine (C2.out.of hG hb).mono ?_); rintro e w2 ⟨rfl, hb2⟩)
    replace x4 := x4.below hb2
    replace x5 := x5.below hb2
    replace q0 := x4.c0
    replace q1 := x4.c1
    replace q2 := x5.c0
    replace q3 := x5.c1
    replace hb := bto hb hb2
    clear hb2
    go_wp2
    go_ret
    exact ⟨reti HV.out.symm, hb⟩
  rw [if_pos g2] at C2
  by_cases g3 : isFr k k'
  rotate_left
  · have HV : Hid (verE ps l l' k k' = 1) := if_pos (.inr (.inr g3))
    rw [if_neg g3] at C3
    clear g1 g2 g3
    go_enter Tryz.func35, Tryz.ntmps35
    go_wp2_with fail
    ((with_reducible refine (C1.out.of hG hb).mono ?_); rintro e w1 ⟨rfl, hb1⟩)
    replace x4 := x4.below hb1
    replace x5 := x5.below hb1
    replace q0 := x4.c0
    replace q1 := x4.c1
    replace q2 := x5.c0
    replace q3 := x5.c1
    replace hb := bto hb hb1
    clear hb1
    go_wp2_with fail
    ((with_reducible refine (C2.out.of hG hb).mono ?_); rintro e w2 ⟨rfl, hb2⟩)
    replace x4 := x4.below hb2
    replace x5 := x5.below hb2
    replace q0 := x4.c0
    replace q1 := x4.c1
    replace q2 := x5.c0
    replace q3 := x5.c1
    replace hb := bto hb hb2
    clear hb2
    go_wp2_with fail
    ((with_reducible refine (C3.out.of hG hb).mono ?_); rintro e w3 ⟨rfl, hb3⟩)
    replace x4 := x4.below hb3
    replace x5 := x5.below hb3
    replace q0 := x4.c0
    replace q1 := x4.c1
    replace q2 := x5.c0
    replace q3 := x5.c1
    replace hb := bto hb hb3
    clear hb3
    go_wp2
    go_ret
    exact ⟨reti HV.out.symm, hb⟩
  rw [if_pos g3] at C3
  have HV0 : Hid (verE ps l l' k k' = if fv l l' < 0 then 2 else if fv k k' < fv l l' then 8 else if ¬ chN (sumsL 0 (pzs ps)) = 1 then 25 else if 0 < placeQ (sg1 (sumsL 0 (pzs ps))) (pzs ps) (fv l l') ∨ placeQ (sg1 (sumsL 0 (pzs ps))) (pzs ps) (fv k k') < 0 then 20 else 0) := by
    show _ = _; unfold verE; rw [if_neg (by rintro (h | h | h); exact h g1; exact h g2; exact h g3)]
  have HG1 := Lib.hid g1
  have HFl := Lib.hid g2
  have HFk := Lib.hid g3
  obtain ⟨p, hp⟩ : ∃ p, p = fv l l' := ⟨_, rfl⟩
  obtain ⟨q, hq⟩ : ∃ q, q = fv k k' := ⟨_, rfl⟩
  have HPq := Lib.hid hp
  have HQq := Lib.hid hq
  rw [← hp] at C4 C5 HV0 HVV
  rw [← hq] at C5 HV0 HWW
  clear g1 g2 g3 hp hq
  go_enter Tryz.func35, Tryz.ntmps35
  go_wp2_with fail
  ((with_reducible refine (C1.out.of hG hb).mono ?_); rintro e w1 ⟨rfl, hb1⟩)
  replace x4 := x4.below hb1
  replace x5 := x5.below hb1
  replace q0 := x4.c0
  replace q1 := x4.c1
  replace q2 := x5.c0
  replace q3 := x5.c1
  replace hb := bto hb hb1
  clear hb1
  go_wp2_with fail
  ((with_reducible refine (C2.out.of hG hb).mono ?_); rintro e w2 ⟨rfl, hb2⟩)
  replace x4 := x4.below hb2
  replace x5 := x5.below hb2
  replace q0 := x4.c0
  replace q1 := x4.c1
  replace q2 := x5.c0
  replace q3 := x5.c1
  replace hb := bto hb hb2
  clear hb2
  go_wp2_with fail
  ((with_reducible refine (C3.out.of hG hb).mono ?_); rintro e w3 ⟨rfl, hb3⟩)
  replace x4 := x4.below hb3
  replace x5 := x5.below hb3
  replace q0 := x4.c0
  replace q1 := x4.c1
  replace q2 := x5.c0
  replace q3 := x5.c1
  replace hb := bto hb hb3
  clear hb3
  go_wp2_with fail
  ((with_reducible refine (C4.out.of hG hb).mono ?_); rintro e w4 ⟨rfl, hb4⟩)
  replace x4 := x4.below hb4
  replace x5 := x5.below hb4
  replace q0 := x4.c0
  replace q1 := x4.c1
  replace q2 := x5.c0
  replace q3 := x5.c1
  replace hb := bto hb hb4
  clear hb4
  by_cases g4 : p < 0
  · have e4 : decide (cmpQ p 0 < 0) = true := decide_eq_true ((cmpQ_neg _ _).2 g4)
    have HV : Hid (verE ps l l' k k' = 2) := by show _ = _; rw [HV0.out, if_pos g4]
    generalize cmpQ p 0 = cc at *
    go_wp2
    go_ret
    exact ⟨reti HV.out.symm, hb⟩
  have e4 : decide (cmpQ p 0 < 0) = false := decide_eq_false (fun h => g4 ((cmpQ_neg _ _).1 h))
  generalize cmpQ p 0 = cc at *
  go_wp2_with fail
  ((with_reducible refine (C5.out.of hG hb).mono ?_); rintro e w5 ⟨rfl, hb5⟩)
  replace x4 := x4.below hb5
  replace x5 := x5.below hb5
  replace q0 := x4.c0
  replace q1 := x4.c1
  replace q2 := x5.c0
  replace q3 := x5.c1
  replace hb := bto hb hb5
  clear hb5
  by_cases g5 : q < p
  · have e5 : decide (0 < cmpQ p q) = true := decide_eq_true ((cmpQ_pos' _ _).2 g5)
    have HV : Hid (verE ps l l' k k' = 8) := by show _ = _; rw [HV0.out, if_neg g4, if_pos g5]
    generalize cmpQ p q = cd at *
    go_wp2
    go_ret
    exact ⟨reti HV.out.symm, hb⟩
  have e5 : decide (0 < cmpQ p q) = false := decide_eq_false (fun h => g5 ((cmpQ_pos' _ _).1 h))
  generalize cmpQ p q = cd at *
  have hl := Nat.le_trans (sums_len (pzs ps) 0) (by unfold pzs; rw [List.length_map]; exact Nat.le_of_eq HH.out.len : (pzs ps).length ≤ n)
  have hn3 := HH.out.n1
  go_wp2_with fail
  ((with_reducible refine (mrSigns A ps n c _ (hG.below hb) (HH.out.below hb)).mono ?_); rintro e w6 ⟨B, cp, rfl, hI, hb6⟩)
  replace x4 := x4.below hb6
  replace x5 := x5.below hb6
  replace q0 := x4.c0
  replace q1 := x4.c1
  replace q2 := x5.c0
  replace q3 := x5.c1
  replace hb := bto hb hb6
  have C7 := Lib.hid (mrChg B _ _ cp w6 (List.length_map _) (by omega) hI)
  rw [nb_chN] at C7
  replace hI := fun w' hb' => hI.below (w' := w') hb'
  clear hb6
  go_wp2_with fail
  ((with_reducible refine (C7.out).mono ?_); rintro e w7 ⟨rfl, hb7⟩)
  replace x4 := x4.below hb7
  replace x5 := x5.below hb7
  replace q0 := x4.c0
  replace q1 := x4.c1
  replace q2 := x5.c0
  replace q3 := x5.c1
  replace hb := bto hb hb7
  replace hI := hI w7 hb7
  clear hb7
  by_cases g6 : chN (sumsL 0 (pzs ps)) = 1
  rotate_left
  · have e6 : (((chN (sumsL 0 (pzs ps)) : Nat) : Int) != 1) = true := bneq' (intbne (by omega))
    have HV : Hid (verE ps l l' k k' = 25) := by show _ = _; rw [HV0.out, if_neg g4, if_neg g5, if_pos g6]
    generalize ((chN (sumsL 0 (pzs ps)) : Nat) : Int) = ch at *
    go_wp2
    go_ret
    exact ⟨reti HV.out.symm, hb⟩
  have hs := sg1_cases g6
  rw [g6]
  have hne : (sumsL 0 (pzs ps)).length ≠ 0 := fun h => by rw [List.eq_nil_of_length_eq_zero h] at g6; cases g6
  obtain ⟨j, hj⟩ : ∃ j, (sumsL 0 (pzs ps)).length = j + 1 := ⟨(sumsL 0 (pzs ps)).length - 1, by omega⟩
  obtain ⟨bI, oI, rfl, hbI, hIc⟩ := hI j _ (lastZ g6 hj)
  rw [hj]
  have C7 := Lib.hid (mrPlace (q := p) (s := -sg1 (sumsL 0 (pzs ps))) hG HH.out (by omega) (fun hne => HVV.out HG1.out (by grind)) c)
  have C8 := Lib.hid (mrPlace (q := q) (s := -sg1 (sumsL 0 (pzs ps))) hG HH.out (by omega) (fun hne => HWW.out HG1.out (by grind)) c)
  rw [Int.neg_neg] at C7 C8
  have hjw : IntKind.i64.wrap (j : Int) = (j : Int) := Go.IntWalk.i64_in _ (by omega)
  have hj0 : (j : Int) < (j : Int) + 1 := by omega
  clear hI hj hne hbI hl hn3
  rw [if_neg g4, if_neg g5, if_neg (fun h => h g6)] at HV0
  generalize sg1 (sumsL 0 (pzs ps)) = s at *
  obtain ⟨P, hP⟩ : ∃ P, P = placeQ s (pzs ps) p := ⟨_, rfl⟩
  obtain ⟨Q, hQ⟩ : ∃ Q, Q = placeQ s (pzs ps) q := ⟨_, rfl⟩
  rw [← hP] at C7 HV0
  rw [← hQ] at C8 HV0
  have k1 : fN p = l := by rw [HPq.out]; exact HFl.out.1.symm
  have k2 : fD p = l' := by rw [HPq.out]; exact HFl.out.2.symm
  have k3 : fN q = k := by rw [HQq.out]; exact HFk.out.1.symm
  have k4 : fD q = k' := by rw [HQq.out]; exact HFk.out.2.symm
  rw [k1, k2] at C7
  rw [k3, k4] at C8
  clear k1 k2 k3 k4
  clear g4 g5 g6 hs hP hQ e4 e5 HPq HQq
  go_wp2_with fail
  ((with_reducible refine (C7.out.of hG hb).mono ?_); rintro e w9 ⟨rfl, hb9⟩)
  replace x4 := x4.below hb9
  replace x5 := x5.below hb9
  replace q0 := x4.c0
  replace q1 := x4.c1
  replace q2 := x5.c0
  replace q3 := x5.c1
  replace hb := bto hb hb9
  clear hb9
  by_cases g7 : 0 < P
  · have e7 : decide (0 < P) = true := decide_eq_true g7
    have HV : Hid (verE ps l l' k k' = 20) := by show _ = _; rw [HV0.out, if_pos (.inl g7)]
    go_wp2
    go_ret
    exact ⟨reti HV.out.symm, hb⟩
  have e7 : decide (0 < P) = false := decide_eq_false g7
  go_wp2_with fail
  ((with_reducible refine (C8.out.of hG hb).mono ?_); rintro e w10 ⟨rfl, hb10⟩)
  replace x4 := x4.below hb10
  replace x5 := x5.below hb10
  replace q0 := x4.c0
  replace q1 := x4.c1
  replace q2 := x5.c0
  replace q3 := x5.c1
  replace hb := bto hb hb10
  clear hb10
  by_cases g8 : Q < 0
  · have e8 : decide (Q < 0) = true := decide_eq_true g8
    have HV : Hid (verE ps l l' k k' = 20) := by show _ = _; rw [HV0.out, if_pos (.inr g8)]
    go_wp2
    go_ret
    exact ⟨reti HV.out.symm, hb⟩
  have e8 : decide (Q < 0) = false := decide_eq_false g8
  have HV : Hid (verE ps l l' k k' = 0) := by show _ = _; rw [HV0.out, if_neg (fun h => by rcases h with h | h <;> omega)]
  go_wp2
  go_ret
  exact ⟨reti HV.out.symm, hb⟩
end Go.Proofs.YtolbojchdlojnaaGreatDoor
