/- Check of package moneyweighted and of trancheref47. -/
import Derived.Test.YtolbojchdlojnaaGreatDoorWs
namespace Go.Proofs.YtolbojchdlojnaaGreatDoor
open Go.RowKit Num
set_option maxHeartbeats 4000000 in
set_option maxRecDepth 100000 in
theorem mwCheck (A : Option Addr) (ps : List Pay) (n c : Nat) (w : World) (hG : Glob w) (hn : ps.length = n) (hs : ∀ p ∈ ps, p.amt.length ≤ 1000) (h : PayAt w A ps) :
    Calls Tryz.prog 31 #[.slice A n c] w fun e w' => e = .returned (.int .i64 (payE ps)) ∧ Below w.heap.size w w' := by
  by_cases h0 : n = 0
  · subst h0
    have HV : Hid (payE ps = 11) := by show _ = _; unfold payE; rw [if_pos hn]
    clear hn hs h
    go_enter Tryz.func31, Tryz.ntmps31
    go_wp2
    go_ret
    exact ⟨reti HV.out.symm, Below.refl _ _⟩
  have z1 : ((n : Int) == 0) = false := intbne (by omega)
  by_cases h64 : 64 < n
  · have e1 : decide (64 < n) = true := decide_eq_true h64
    have HV : Hid (payE ps = 4) := by show _ = _; unfold payE; rw [if_neg (by omega), if_pos (by omega)]
    clear hn hs h
    go_enter Tryz.func31, Tryz.ntmps31
    go_wp2
    go_ret
    exact ⟨reti HV.out.symm, Below.refl _ _⟩
  have e1 : decide (64 < n) = false := decide_eq_false h64
  have HV : Hid (payE ps = payL none ps) := by show _ = _; unfold payE; rw [if_neg (by omega), if_neg (by omega)]
  have HI := Lib.hid h
  have HS := Lib.hid hs
  have hn1 : ps.length ≤ n := by omega
  have hn2 : n ≤ ps.length := by omega
  clear h hn hs
  go_enter Tryz.func31, Tryz.ntmps31
  go_wp2_with fail
  clear e1 z1
  go_loopw [13] (fun iv wr => ∃ k : Nat, k ≤ n ∧ iv = .int .i64 (k : Int) ∧ Hid (payL none ps = payL (prevO ps k) (ps.drop k)) ∧ Below w.heap.size w wr) (fun iv _ => n - (intOf iv).toNat)
  case atStart => exact ⟨0, Nat.zero_le _, rfl, rfl, Below.refl _ _⟩
  case round =>
    obtain ⟨k, hk, rfl, HK, hb⟩ := hrel
    by_cases hlk : k < n
    rotate_left
    · have HQ : Hid (payL none ps = 0) := by show _ = _; rw [HK.out, List.drop_of_length_le (by omega)]; rfl
      go_wp2
      go_ret
      exact ⟨reti (HV.out.trans HQ.out).symm, hb⟩
    obtain ⟨t, ht⟩ : ∃ t, ps[k]? = some t := ⟨_, List.getElem?_eq_getElem (by omega)⟩
    have HD := Lib.hid (payL_step ht)
    have hts := HS.out t (List.mem_of_getElem? ht)
    obtain ⟨b, o, rfl, hbs, p0, p1⟩ := (HI.out.below hb) k t ht
    have C1 := Lib.hid (riCheck (l := t.amt) (Nat.le_trans hts (by decide)) rfl)
    have hbA := below_alloc wr (.cells #[.int .i64 t.per, .string ⟨t.amt.toArray⟩] 27)
    have x4 := FBox.new wr (.int .i64 t.per) (.string ⟨t.amt.toArray⟩) 27
    replace hb := bto hb hbA
    have q0 := x4.c0
    have q1 := x4.c1
    clear hbA
    clear ht hts
    by_cases g1 : t.per < 0
    · have e2 : decide (t.per < 0) = true := decide_eq_true g1
      have HQ : Hid (payL none ps = 2) := by show _ = _; rw [HK.out, HD.out, if_pos (.inl g1)]
      clear HK HD C1
      go_wp2
      go_ret
      exact ⟨reti (HV.out.trans HQ.out).symm, hb⟩
    have e2 : decide (t.per < 0) = false := decide_eq_false g1
    by_cases g2 : 400 < t.per
    · have e3 : decide (400 < t.per) = true := decide_eq_true g2
      have HQ : Hid (payL none ps = 2) := by show _ = _; rw [HK.out, HD.out, if_pos (.inr g2)]
      clear HK HD C1
      go_wp2
      go_ret
      exact ⟨reti (HV.out.trans HQ.out).symm, hb⟩
    have e3 : decide (400 < t.per) = false := decide_eq_false g2
    have HQ : Hid (payL none ps = if lessO (prevO ps k) t.per = true then 8 else if ¬ t.amt = canon (val t.amt) then 1 else payL (prevO ps (k + 1)) (ps.drop (k + 1))) := by show _ = _; rw [HK.out, HD.out, if_neg (fun h => h.elim g1 g2)]
    clear HK HD
    cases k with
    | zero =>
      simp only [Nat.zero_mul, Nat.add_zero] at p0 p1
      replace HQ : Hid (payL none ps = if ¬ t.amt = canon (val t.amt) then 1 else payL (prevO ps (0 + 1)) (ps.drop (0 + 1))) := HQ.out
      go_wp2_with fail
      go_quiet (fail)
      replace hb := bdrewN hb nq
      by_cases g4 : t.amt = canon (val t.amt)
      rotate_left
      · have HR : Hid (payL none ps = 1) := by show _ = _; rw [HQ.out, if_pos g4]
        rw [if_neg g4] at C1
        clear g4 HQ
        go_wp2_with fail
        ((with_reducible refine (C1.out.of hG hb).mono ?_); rintro e w2 ⟨rfl, hb2⟩)
        go_wp2
        go_ret
        exact ⟨reti (HV.out.trans HR.out).symm, bto hb hb2⟩
      have HR : Hid (payL none ps = payL (prevO ps (0 + 1)) (ps.drop (0 + 1))) := by show _ = _; rw [HQ.out, if_neg (fun h => h g4)]
      rw [if_pos g4] at C1
      clear g4 HQ
      go_wp2_with fail
      ((with_reducible refine (C1.out.of hG hb).mono ?_); rintro e w2 ⟨rfl, hb2⟩)
      go_wp2
      go_roundw
      case rel => exact ⟨0 + 1, by omega, by go_num, HR.out, bto hb hb2⟩
      case measure => simp [intOf]; omega
    | succ j =>
      obtain ⟨u, hu⟩ : ∃ u, ps[j]? = some u := ⟨_, List.getElem?_eq_getElem (by omega)⟩
      obtain ⟨b', o', hbo, hbs', r0, r1⟩ := (HI.out.below hb) j u hu
      obtain ⟨rfl, rfl⟩ : b = b' ∧ o = o' := by injection hbo with hbo; injection hbo with h1 h2; exact ⟨h1, h2⟩
      have HE : Hid (lessO (prevO ps (j + 1)) t.per = decide (t.per < u.per)) := by show lessO ((ps[j]?).map (·.per)) t.per = _; rw [hu]; rfl
      clear hbo hu r1 hbs'
      rw [HE.out] at HQ
      clear HE
      by_cases g3 : t.per < u.per
      · have e4 : decide (t.per < u.per) = true := decide_eq_true g3
        have HR : Hid (payL none ps = 8) := by show _ = _; rw [HQ.out, if_pos e4]
        clear HQ C1
        go_wp2_with fail
        go_quiet (fail)
        replace hb := bdrewN hb nq
        go_wp2
        go_ret
        exact ⟨reti (HV.out.trans HR.out).symm, hb⟩
      have e4 : decide (t.per < u.per) = false := decide_eq_false g3
      replace HQ : Hid (payL none ps = if ¬ t.amt = canon (val t.amt) then 1 else payL (prevO ps (j + 1 + 1)) (ps.drop (j + 1 + 1))) := by show _ = _; rw [HQ.out, if_neg (by rw [e4]; decide)]
      go_wp2_with fail
      go_quiet (fail)
      replace hb := bdrewN hb nq
      by_cases g4 : t.amt = canon (val t.amt)
      rotate_left
      · have HR : Hid (payL none ps = 1) := by show _ = _; rw [HQ.out, if_pos g4]
        rw [if_neg g4] at C1
        clear g4 HQ
        go_wp2_with fail
        ((with_reducible refine (C1.out.of hG hb).mono ?_); rintro e w2 ⟨rfl, hb2⟩)
        go_wp2
        go_ret
        exact ⟨reti (HV.out.trans HR.out).symm, bto hb hb2⟩
      have HR : Hid (payL none ps = payL (prevO ps (j + 1 + 1)) (ps.drop (j + 1 + 1))) := by show _ = _; rw [HQ.out, if_neg (fun h => h g4)]
      rw [if_pos g4] at C1
      clear g4 HQ
      go_wp2_with fail
      ((with_reducible refine (C1.out.of hG hb).mono ?_); rintro e w2 ⟨rfl, hb2⟩)
      go_wp2
      go_roundw
      case rel => exact ⟨j + 1 + 1, by omega, by go_num, HR.out, bto hb hb2⟩
      case measure => simp [intOf]; omega
set_option maxHeartbeats 4000000 in
set_option maxRecDepth 100000 in
theorem mrCheck (A : Option Addr) (ps : List Pay) (n c : Nat) (w : World) (hG : Glob w) (hn : ps.length = n) (hs : ∀ p ∈ ps, p.amt.length ≤ 1000) (h : PayAt w A ps) :
    Calls Tryz.prog 32 #[.slice A n c] w fun e w' => e = .returned (.int .i64 (payE ps)) ∧ Below w.heap.size w w' := by
  by_cases h0 : n = 0
  · subst h0
    have HV : Hid (payE ps = 11) := by show _ = _; unfold payE; rw [if_pos hn]
    clear hn hs h
    go_enter Tryz.func32, Tryz.ntmps32
    go_wp2
    go_ret
    exact ⟨reti HV.out.symm, Below.refl _ _⟩
  have z1 : ((n : Int) == 0) = false := intbne (by omega)
  by_cases h64 : 64 < n
  · have e1 : decide (64 < n) = true := decide_eq_true h64
    have HV : Hid (payE ps = 4) := by show _ = _; unfold payE; rw [if_neg (by omega), if_pos (by omega)]
    clear hn hs h
    go_enter Tryz.func32, Tryz.ntmps32
    go_wp2
    go_ret
    exact ⟨reti HV.out.symm, Below.refl _ _⟩
  have e1 : decide (64 < n) = false := decide_eq_false h64
  have HV : Hid (payE ps = payL none ps) := by show _ = _; unfold payE; rw [if_neg (by omega), if_neg (by omega)]
  have HI := Lib.hid h
  have HS := Lib.hid hs
  have hn1 : ps.length ≤ n := by omega
  have hn2 : n ≤ ps.length := by omega
  clear h hn hs
  go_enter Tryz.func32, Tryz.ntmps32
  go_wp2_with fail
  clear e1 z1
  go_loopw [3] (fun iv wr => ∃ k : Nat, k ≤ n ∧ iv = .int .i64 (k : Int) ∧ Hid (payL none ps = payL (prevO ps k) (ps.drop k)) ∧ Below w.heap.size w wr) (fun iv _ => n - (intOf iv).toNat)
  case atStart => exact ⟨0, Nat.zero_le _, rfl, rfl, Below.refl _ _⟩
  case round =>
    obtain ⟨k, hk, rfl, HK, hb⟩ := hrel
    by_cases hlk : k < n
    rotate_left
    · have HQ : Hid (payL none ps = 0) := by show _ = _; rw [HK.out, List.drop_of_length_le (by omega)]; rfl
      go_wp2
      go_ret
      exact ⟨reti (HV.out.trans HQ.out).symm, hb⟩
    obtain ⟨t, ht⟩ : ∃ t, ps[k]? = some t := ⟨_, List.getElem?_eq_getElem (by omega)⟩
    have HD := Lib.hid (payL_step ht)
    have hts := HS.out t (List.mem_of_getElem? ht)
    obtain ⟨b, o, rfl, hbs, p0, p1⟩ := (HI.out.below hb) k t ht
    have C1 := Lib.hid (qCheck (l := t.amt) (Nat.le_trans hts (by decide)) rfl)
    clear ht hts
    by_cases g1 : t.per < 0
    · have e2 : decide (t.per < 0) = true := decide_eq_true g1
      have HQ : Hid (payL none ps = 2) := by show _ = _; rw [HK.out, HD.out, if_pos (.inl g1)]
      clear HK HD C1
      go_wp2
      go_ret
      exact ⟨reti (HV.out.trans HQ.out).symm, hb⟩
    have e2 : decide (t.per < 0) = false := decide_eq_false g1
    by_cases g2 : 400 < t.per
    · have e3 : decide (400 < t.per) = true := decide_eq_true g2
      have HQ : Hid (payL none ps = 2) := by show _ = _; rw [HK.out, HD.out, if_pos (.inr g2)]
      clear HK HD C1
      go_wp2
      go_ret
      exact ⟨reti (HV.out.trans HQ.out).symm, hb⟩
    have e3 : decide (400 < t.per) = false := decide_eq_false g2
    have HQ : Hid (payL none ps = if lessO (prevO ps k) t.per = true then 8 else if ¬ t.amt = canon (val t.amt) then 1 else payL (prevO ps (k + 1)) (ps.drop (k + 1))) := by show _ = _; rw [HK.out, HD.out, if_neg (fun h => h.elim g1 g2)]
    clear HK HD
    cases k with
    | zero =>
      simp only [Nat.zero_mul, Nat.add_zero] at p0 p1
      replace HQ : Hid (payL none ps = if ¬ t.amt = canon (val t.amt) then 1 else payL (prevO ps (0 + 1)) (ps.drop (0 + 1))) := HQ.out
      go_wp2_with fail
      go_quiet (fail)
      replace hb := bdrewN hb nq
      by_cases g4 : t.amt = canon (val t.amt)
      rotate_left
      · have HR : Hid (payL none ps = 1) := by show _ = _; rw [HQ.out, if_pos g4]
        rw [if_neg g4] at C1
        clear g4 HQ
        go_wp2_with fail
        ((with_reducible refine (C1.out.of hG hb).mono ?_); rintro e w2 ⟨rfl, hb2⟩)
        go_wp2
        go_ret
        exact ⟨reti (HV.out.trans HR.out).symm, bto hb hb2⟩
      have HR : Hid (payL none ps = payL (prevO ps (0 + 1)) (ps.drop (0 + 1))) := by show _ = _; rw [HQ.out, if_neg (fun h => h g4)]
      rw [if_pos g4] at C1
      clear g4 HQ
      go_wp2_with fail
      ((with_reducible refine (C1.out.of hG hb).mono ?_); rintro e w2 ⟨rfl, hb2⟩)
      go_wp2
      go_roundw
      case rel => exact ⟨0 + 1, by omega, by go_num, HR.out, bto hb hb2⟩
      case measure => simp [intOf]; omega
    | succ j =>
      obtain ⟨u, hu⟩ : ∃ u, ps[j]? = some u := ⟨_, List.getElem?_eq_getElem (by omega)⟩
      obtain ⟨b', o', hbo, hbs', r0, r1⟩ := (HI.out.below hb) j u hu
      obtain ⟨rfl, rfl⟩ : b = b' ∧ o = o' := by injection hbo with hbo; injection hbo with h1 h2; exact ⟨h1, h2⟩
      have HE : Hid (lessO (prevO ps (j + 1)) t.per = decide (t.per < u.per)) := by show lessO ((ps[j]?).map (·.per)) t.per = _; rw [hu]; rfl
      clear hbo hu r1 hbs'
      rw [HE.out] at HQ
      clear HE
      by_cases g3 : t.per < u.per
      · have e4 : decide (t.per < u.per) = true := decide_eq_true g3
        have HR : Hid (payL none ps = 8) := by show _ = _; rw [HQ.out, if_pos e4]
        clear HQ C1
        go_wp2_with fail
        go_quiet (fail)
        replace hb := bdrewN hb nq
        go_wp2
        go_ret
        exact ⟨reti (HV.out.trans HR.out).symm, hb⟩
      have e4 : decide (t.per < u.per) = false := decide_eq_false g3
      replace HQ : Hid (payL none ps = if ¬ t.amt = canon (val t.amt) then 1 else payL (prevO ps (j + 1 + 1)) (ps.drop (j + 1 + 1))) := by show _ = _; rw [HQ.out, if_neg (by rw [e4]; decide)]
      go_wp2_with fail
      go_quiet (fail)
      replace hb := bdrewN hb nq
      by_cases g4 : t.amt = canon (val t.amt)
      rotate_left
      · have HR : Hid (payL none ps = 1) := by show _ = _; rw [HQ.out, if_pos g4]
        rw [if_neg g4] at C1
        clear g4 HQ
        go_wp2_with fail
        ((with_reducible refine (C1.out.of hG hb).mono ?_); rintro e w2 ⟨rfl, hb2⟩)
        go_wp2
        go_ret
        exact ⟨reti (HV.out.trans HR.out).symm, bto hb hb2⟩
      have HR : Hid (payL none ps = payL (prevO ps (j + 1 + 1)) (ps.drop (j + 1 + 1))) := by show _ = _; rw [HQ.out, if_neg (fun h => h g4)]
      rw [if_pos g4] at C1
      clear g4 HQ
      go_wp2_with fail
      ((with_reducible refine (C1.out.of hG hb).mono ?_); rintro e w2 ⟨rfl, hb2⟩)
      go_wp2
      go_roundw
      case rel => exact ⟨j + 1 + 1, by omega, by go_num, HR.out, bto hb hb2⟩
      case measure => simp [intOf]; omega
end Go.Proofs.YtolbojchdlojnaaGreatDoor
