/- DecimalRoundTrip. -/
import Derived.Test.YtmmhimgkpfcokaaGreatDoorLdist
namespace Go.Proofs.YtmmhimgkpfcokaaGreatDoor
open Go.RowKit Num
theorem textD_Q (z : Int) (p : Nat) : decQ (textD z p) = Rat.divInt z ((10 ^ p : Nat) : Int) := by unfold decQ; rw [textD_Z, textD_P, tP_len]
theorem ten_ne (p : Nat) : ((10 ^ p : Nat) : Int) ≠ 0 := by have := Nat.pow_pos (n := p) (show 0 < 10 by decide); omega
theorem divInt_ten (z : Int) (p : Nat) : Rat.divInt z ((10 ^ p : Nat) : Int) * tenQ p = (z : Rat) := by
  unfold tenQ
  rw [Rat.divInt_eq_div]
  exact Rat.div_mul_cancel (fun h => ten_ne p (Rat.intCast_inj.1 (h.trans rfl)))
theorem tenQ_succ (p : Nat) : tenQ (p + 1) = tenQ p * 10 := by
  unfold tenQ
  rw [Nat.pow_succ, Int.natCast_mul, Rat.intCast_mul]; rfl
theorem parse_text (z : Int) (p : Nat) : ParseV (textD z p) p = .tuple #[.string ⟨(canon z).toArray⟩, .int .i64 0] := by
  have h : decQ (textD z p) * tenQ p = (z : Rat) := by rw [textD_Q, divInt_ten]
  rw [parseV_1 (textD_ok z p) (by rw [h]; exact Rat.den_intCast z), h]; rfl
theorem parse_text1 (z : Int) (p : Nat) : ParseV (textD z p) (p + 1) = .tuple #[.string ⟨(canon (z * 10)).toArray⟩, .int .i64 0] := by
  have h : decQ (textD z p) * tenQ (p + 1) = ((z * 10 : Int) : Rat) := by rw [textD_Q, tenQ_succ, ← Rat.mul_assoc, divInt_ten, Rat.intCast_mul]; rfl
  rw [parseV_1 (textD_ok z p) (by rw [h]; exact Rat.den_intCast _), h]; rfl
theorem cut_text (z : Int) (p : Nat) : ∃ X Y : List UInt8, Lib.cut (textD z p) [46] = (X, Y, decide (0 < p)) ∧ Y.length = p := by
  have hs : 46 ∉ sgnT z := by unfold sgnT; split <;> decide
  have hw := no46 (tW_dig z.natAbs p)
  unfold textD
  by_cases h : p = 0
  · refine ⟨sgnT z ++ tW z.natAbs p, [], ?_, by rw [h]; rfl⟩
    rw [if_pos h, List.append_nil, cut46_none (by rw [List.mem_append]; exact fun hm => hm.elim hs hw), h]; rfl
  · refine ⟨sgnT z ++ tW z.natAbs p, tP z.natAbs p, ?_, tP_len _ _⟩
    rw [if_neg h, ← List.append_assoc, cut46_at _ (by rw [List.mem_append]; exact fun hm => hm.elim hs hw), decide_eq_true (by omega)]
set_option maxHeartbeats 4000000 in
set_option maxRecDepth 100000 in
theorem rt_law (l : List UInt8) (n : Int) (_hn0 : -9223372036854775808 ≤ n) (_hn1 : n ≤ 9223372036854775807) (w : World) (hG : Glob w) :
    Calls Tryz.prog 6 #[.string ⟨l.toArray⟩, .int .i64 n] w fun e w' => e = .returned (.bool true) ∧ Below w.heap.size w w' := by
  have CW := Lib.hid wAwake3
  have CL := Lib.hid (eLong l)
  have hb := Below.refl w.heap.size w
  go_enter Tryz.func6, Tryz.ntmps6
  go_wp2_with fail
  ((with_reducible refine (CL.out.of hG hb).mono ?_); rintro e w2 ⟨rfl, hb2⟩)
  replace hb := bto hb hb2
  clear hb2
  by_cases hl : 60 < l.length
  · rw [decide_eq_true hl]
    clear hl
    go_wp2_with fail
    ((with_reducible refine (CW.out.of hG hb).mono ?_); rintro e w3 ⟨rfl, hb3⟩)
    replace hb := bto hb hb3
    clear hb3
    go_wp2
    go_ret
    exact ⟨rfl, hb⟩
  rw [decide_eq_false hl]
  have hl' : l.length ≤ 60 := by omega
  clear hl
  by_cases hn : n < 0 ∨ 12 < n
  · have CT := Lib.hid (dTextOut (l := l) hn)
    go_wp2_with fail
    ((with_reducible refine (CT.out.of hG hb).mono ?_); rintro e w3 ⟨rfl, hb3⟩)
    replace hb := bto hb hb3
    clear hb3
    by_cases h0 : n < 0
    · have e1 : decide (n < 0) = true := decide_eq_true h0
      clear hn
      go_wp2_with fail
      ((with_reducible refine (CW.out.of hG hb).mono ?_); rintro e w4 ⟨rfl, hb4⟩)
      replace hb := bto hb hb4
      clear hb4
      go_wp2
      go_ret
      exact ⟨rfl, hb⟩
    · have e1 : decide (n < 0) = false := decide_eq_false h0
      have h12 : 12 < n := by omega
      have e2 : decide (12 < n) = true := decide_eq_true h12
      clear hn
      go_wp2_with fail
      ((with_reducible refine (CW.out.of hG hb).mono ?_); rintro e w4 ⟨rfl, hb4⟩)
      replace hb := bto hb hb4
      clear hb4
      go_wp2
      go_ret
      exact ⟨rfl, hb⟩
  obtain ⟨p, rfl⟩ : ∃ p : Nat, n = p := ⟨n.toNat, by omega⟩
  have hp : p ≤ 12 := by omega
  have g1 : decide ((p : Int) < 0) = false := decide_eq_false (by omega)
  have g2 : decide (12 < (p : Int)) = false := decide_eq_false (by omega)
  have hv : (val l).natAbs < 10 ^ 60 := val_lt_of hl'
  have hdl : (dec (val l).natAbs).length ≤ 60 := dec_len_le _ _ hv
  have htl := textD_len (val l) p
  have c1 := dText (l := l) (by omega) rfl hp
  have c2 := dParse (s := textD (val l) p) (by omega) hp
  have c3 := dFrac (s := textD (val l) p) (by omega)
  rw [parse_text] at c2
  rw [fracV_t (textD_ok _ _), textD_Q] at c3
  have c4 := riPower (l := [49, 48]) (by decide) (n := p) (by omega) (ten_val p)
  have hlen : ((10 ^ p : Nat) : Int).natAbs < 10 ^ (p + 1) := by rw [Int.natAbs_natCast]; exact Nat.pow_lt_pow_right (by decide) (by omega)
  have cO1 := rOf (l := canon ((10 ^ p : Nat) : Int)) (canon_len_of hlen (by omega)) (val_canon _)
  rw [← tenQ_int] at cO1
  have bz := bd_int hv (by decide)
  have bx : Bd (60 + p + 1) (Rat.divInt (val l) ((10 ^ p : Nat) : Int)) := bd_divInt (Nat.lt_of_lt_of_le hv (Nat.pow_le_pow_right (by decide) (by omega))) (Nat.lt_of_lt_of_le hlen (Nat.pow_le_pow_right (by decide) (by omega))) (ten_ne p)
  have cM := rMul (isq_fr bx (by omega)) (isq_fr (bd_ten p) (by omega)) (divInt_ten (val l) p)
  have cO2 := rOf (l := l) (by omega) rfl
  have cC := rCompare (isq_fr bz (by decide)) (isq_fr bz (by decide)) (cmpQ_self ((val l : Int) : Rat))
  have cK := riCanonical (l := l) (by omega) rfl
  have cCut := rCutP (textD (val l) p) (by omega)
  obtain ⟨X, Y, hcut, hY⟩ := cut_text (val l) p
  rw [hcut] at cCut
  have hc : (canon (val l)).length ≤ 61 := canon_len_le _ _ hv
  have cMu := riMul (l := canon (val l)) (l' := [49, 48]) (by omega) (by decide) (show val (canon (val l)) * val [49, 48] = val l * 10 by rw [val_canon]; rfl)
  have c5 : p < 12 → Ret 36 #[.string ⟨(textD (val l) p).toArray⟩, .int .i64 ((p : Int) + 1)] (.tuple #[.string ⟨(canon (val l * 10)).toArray⟩, .int .i64 0]) := fun h => by
    have := dParse (s := textD (val l) p) (by omega) (p := p + 1) (by omega)
    rw [parse_text1] at this
    exact this
  clear hcut hv hdl htl hlen bz bx hc hn hl'
  generalize canon (val l * 10) = K10 at *
  generalize textD (val l) p = T at *
  generalize fN (Rat.divInt (val l) ((10 ^ p : Nat) : Int)) = N at *
  generalize fD (Rat.divInt (val l) ((10 ^ p : Nat) : Int)) = D at *
  generalize canon ((10 ^ p : Nat) : Int) = TP at *
  generalize fN (tenQ p) = M at *
  generalize fD (tenQ p) = E at *
  generalize fN ((val l : Int) : Rat) = V0 at *
  generalize fD ((val l : Int) : Rat) = V1 at *
  generalize canon (val l) = K at *
  have C1 := Lib.hid c1
  have C2 := Lib.hid c2
  have C3 := Lib.hid c3
  have C4 := Lib.hid c4
  have C5 := Lib.hid c5
  have O1 := Lib.hid cO1
  have O2 := Lib.hid cO2
  have CM := Lib.hid cM
  have CC := Lib.hid cC
  have CK := Lib.hid cK
  have CT := Lib.hid cCut
  have CX := Lib.hid cMu
  have HY := Lib.hid hY
  have hYl : Y.length ≤ 12 := by omega
  clear c1 c2 c3 c4 c5 cO1 cO2 cM cC cK cCut cMu hY
  go_wp2_with fail
  ((with_reducible refine (C1.out.of hG hb).mono ?_); rintro e w3 ⟨rfl, hb3⟩)
  replace hb := bto hb hb3
  clear hb3
  go_wp2_with fail
  ((with_reducible refine (C2.out.of hG hb).mono ?_); rintro e w4 ⟨rfl, hb4⟩)
  replace hb := bto hb hb4
  clear hb4
  go_wp2_with fail
  ((with_reducible refine (C3.out.of hG hb).mono ?_); rintro e w5 ⟨rfl, hb5⟩)
  replace hb := bto hb hb5
  clear hb5
  have x9 := FBox.new w5 (.string ⟨N.toArray⟩) (.string ⟨D.toArray⟩) 32
  replace hb := bto hb (below_alloc w5 (.cells #[.string ⟨N.toArray⟩, .string ⟨D.toArray⟩] 32))
  go_wp2_with fail
  ((with_reducible refine (C4.out.of hG hb).mono ?_); rintro e w6 ⟨rfl, hb6⟩)
  replace x9 := x9.below hb6
  replace hb := bto hb hb6
  clear hb6
  go_wp2_with fail
  refine wp_region_kept (by kernel_rfl) (by kernel_rfl) ?_
  refine kept_val _ (fun _ => rfl) (fun ρ w hw => by go_simp; first | done | with_reducible rfl) ?_
  simp only [Act.put, List.setIfInBounds_toArray, List.set_cons_zero, List.set_cons_succ, Nat.reduceAdd]
  refine kept_val _ (fun _ => rfl) (fun ρ w hw => by go_simp; first | done | with_reducible rfl) ?_
  simp only [Act.put, List.setIfInBounds_toArray, List.set_cons_zero, List.set_cons_succ, Nat.reduceAdd]
  refine kept_val _ (fun _ => rfl) (fun ρ w hw => by go_simp; first | done | with_reducible rfl) ?_
  simp only [Act.put, List.setIfInBounds_toArray, List.set_cons_zero, List.set_cons_succ, Nat.reduceAdd]
  refine kept_val _ (fun _ => rfl) (fun ρ w hw => by go_simp; first | done | with_reducible rfl) ?_
  simp only [Act.put, List.setIfInBounds_toArray, List.set_cons_zero, List.set_cons_succ, Nat.reduceAdd]
  refine kept_val _ (fun _ => rfl) (fun ρ w hw => by go_simp; first | done | with_reducible rfl) ?_
  simp only [Act.put, List.setIfInBounds_toArray, List.set_cons_zero, List.set_cons_succ, Nat.reduceAdd]
  refine kept_val _ (fun _ => rfl) (fun ρ w hw => by go_simp; first | done | with_reducible rfl) ?_
  simp only [Act.put, List.setIfInBounds_toArray, List.set_cons_zero, List.set_cons_succ, Nat.reduceAdd]
  refine kept_val _ (fun _ => rfl) (fun ρ w hw => by go_simp; first | done | with_reducible rfl) ?_
  simp only [Act.put, List.setIfInBounds_toArray, List.set_cons_zero, List.set_cons_succ, Nat.reduceAdd]
  refine kept_val _ (fun _ => rfl) (fun ρ w hw => by go_simp; first | done | with_reducible rfl) ?_
  simp only [Act.put, List.setIfInBounds_toArray, List.set_cons_zero, List.set_cons_succ, Nat.reduceAdd]
  refine kept_val _ (fun _ => rfl) (fun ρ w hw => by go_simp; first | done | with_reducible rfl) ?_
  simp only [Act.put, List.setIfInBounds_toArray, List.set_cons_zero, List.set_cons_succ, Nat.reduceAdd]
  refine kept_val _ (fun _ => rfl) (fun ρ w hw => by go_simp; first | done | with_reducible rfl) ?_
  simp only [Act.put, List.setIfInBounds_toArray, List.set_cons_zero, List.set_cons_succ, Nat.reduceAdd]
  refine kept_val _ (fun _ => rfl) (fun ρ w hw => by go_simp; first | done | with_reducible rfl) ?_
  simp only [Act.put, List.setIfInBounds_toArray, List.set_cons_zero, List.set_cons_succ, Nat.reduceAdd]
  refine kept_val _ (fun _ => rfl) (fun ρ w hw => by go_simp; first | done | with_reducible rfl) ?_
  simp only [Act.put, List.setIfInBounds_toArray, List.set_cons_zero, List.set_cons_succ, Nat.reduceAdd]
  refine kept_val _ (fun _ => rfl) (fun ρ w hw => by go_simp; first | done | with_reducible rfl) ?_
  simp only [Act.put, List.setIfInBounds_toArray, List.set_cons_zero, List.set_cons_succ, Nat.reduceAdd]
  refine kept_val _ (fun _ => rfl) (fun ρ w hw => by go_simp; first | done | with_reducible rfl) ?_
  simp only [Act.put, List.setIfInBounds_toArray, List.set_cons_zero, List.set_cons_succ, Nat.reduceAdd]
  refine kept_val _ (fun _ => rfl) (fun ρ w hw => by go_simp; first | done | with_reducible rfl) ?_
  simp only [Act.put, List.setIfInBounds_toArray, List.set_cons_zero, List.set_cons_succ, Nat.reduceAdd]
  refine kept_val _ (fun _ => rfl) (fun ρ w hw => by go_simp; first | done | with_reducible rfl) ?_
  simp only [Act.put, List.setIfInBounds_toArray, List.set_cons_zero, List.set_cons_succ, Nat.reduceAdd]
  refine kept_val _ (fun _ => rfl) (fun ρ w hw => by go_simp; first | done | with_reducible rfl) ?_
  simp only [Act.put, List.setIfInBounds_toArray, List.set_cons_zero, List.set_cons_succ, Nat.reduceAdd]
  refine kept_call _ _ _ (fun _ => rfl) (fun ρ w hw => by go_simp; first | done | with_reducible rfl) (fun w hw => CK.out.of hG (bto hb hw)) ?_
  simp only [Act.put, List.setIfInBounds_toArray, List.set_cons_zero, List.set_cons_succ, Nat.reduceAdd]
  refine kept_val _ (fun _ => rfl) (fun ρ w hw => by go_simp; first | done | with_reducible rfl) ?_
  simp only [Act.put, List.setIfInBounds_toArray, List.set_cons_zero, List.set_cons_succ, Nat.reduceAdd]
  refine kept_val _ (fun _ => rfl) (fun ρ w hw => by go_simp; first | done | with_reducible rfl) ?_
  simp only [Act.put, List.setIfInBounds_toArray, List.set_cons_zero, List.set_cons_succ, Nat.reduceAdd]
  refine kept_val _ (fun _ => rfl) (fun ρ w hw => by go_simp; first | done | with_reducible rfl) ?_
  simp only [Act.put, List.setIfInBounds_toArray, List.set_cons_zero, List.set_cons_succ, Nat.reduceAdd]
  refine kept_val _ (fun _ => rfl) (fun ρ w hw => by have q0 := (x9.below hw).c0; have q1 := (x9.below hw).c1; go_simp; first | done | with_reducible rfl) ?_
  simp only [Act.put, List.setIfInBounds_toArray, List.set_cons_zero, List.set_cons_succ, Nat.reduceAdd]
  refine kept_val _ (fun _ => rfl) (fun ρ w hw => by go_simp; first | done | with_reducible rfl) ?_
  simp only [Act.put, List.setIfInBounds_toArray, List.set_cons_zero, List.set_cons_succ, Nat.reduceAdd]
  refine kept_call _ _ _ (fun _ => rfl) (fun ρ w hw => by go_simp; first | done | with_reducible rfl) (fun w hw => O1.out.of hG (bto hb hw)) ?_
  simp only [Act.put, List.setIfInBounds_toArray, List.set_cons_zero, List.set_cons_succ, Nat.reduceAdd]
  refine kept_call _ _ _ (fun _ => rfl) (fun ρ w hw => by go_simp; first | done | with_reducible rfl) (fun w hw => CM.out.of hG (bto hb hw)) ?_
  simp only [Act.put, List.setIfInBounds_toArray, List.set_cons_zero, List.set_cons_succ, Nat.reduceAdd]
  refine kept_val _ (fun _ => rfl) (fun ρ w hw => by go_simp; first | done | with_reducible rfl) ?_
  simp only [Act.put, List.setIfInBounds_toArray, List.set_cons_zero, List.set_cons_succ, Nat.reduceAdd]
  refine kept_call _ _ _ (fun _ => rfl) (fun ρ w hw => by go_simp; first | done | with_reducible rfl) (fun w hw => O2.out.of hG (bto hb hw)) ?_
  simp only [Act.put, List.setIfInBounds_toArray, List.set_cons_zero, List.set_cons_succ, Nat.reduceAdd]
  refine kept_call _ _ _ (fun _ => rfl) (fun ρ w hw => by go_simp; first | done | with_reducible rfl) (fun w hw => CC.out.of hG (bto hb hw)) ?_
  simp only [Act.put, List.setIfInBounds_toArray, List.set_cons_zero, List.set_cons_succ, Nat.reduceAdd]
  refine kept_val _ (fun _ => rfl) (fun ρ w hw => by go_simp; first | done | with_reducible rfl) ?_
  simp only [Act.put, List.setIfInBounds_toArray, List.set_cons_zero, List.set_cons_succ, Nat.reduceAdd]
  refine kept_val _ (fun _ => rfl) (fun ρ w hw => by go_simp; first | done | with_reducible rfl) ?_
  simp only [Act.put, List.setIfInBounds_toArray, List.set_cons_zero, List.set_cons_succ, Nat.reduceAdd]
  refine kept_end (fun ρ w7 hF => ?_)
  replace x9 := x9.below hF.below
  replace hb := bto hb hF.below
  clear hF
  clear x9
  go_wp2_with fail
  ((with_reducible refine (CT.out.of hG hb).mono ?_); rintro e w8 ⟨rfl, hb8⟩)
  replace hb := bto hb hb8
  clear hb8
  have y1 : ((Y.length : Int) == (p : Int)) = true := by rw [beq_iff_eq, HY.out]
  have y2 : ((Y.length : Int) != (p : Int)) = false := bneq y1
  by_cases hp0 : 0 < p
  · have z1 : decide (0 < p) = true := decide_eq_true hp0
    have z2 : decide (0 < (p : Int)) = true := decide_eq_true (by omega)
    rw [z1]
    by_cases h12 : (p : Int) = 12
    · have e3 := intbeq h12
      clear h12
      go_wp2_with fail
      ((with_reducible refine (CW.out.of hG hb).mono ?_); rintro e w9 ⟨rfl, hb9⟩)
      replace hb := bto hb hb9
      clear hb9
      go_wp2
      go_ret
      exact ⟨rfl, hb⟩
    · have e3 := intbne h12
      have C6 := Lib.hid (C5.out (by omega))
      clear h12 C5
      go_wp2_with fail
      ((with_reducible refine (C6.out.of hG hb).mono ?_); rintro e w9 ⟨rfl, hb9⟩)
      replace hb := bto hb hb9
      clear hb9
      go_wp2_with fail
      ((with_reducible refine (CX.out.of hG hb).mono ?_); rintro e w10 ⟨rfl, hb10⟩)
      replace hb := bto hb hb10
      clear hb10
      go_wp2_with fail
      ((with_reducible refine (CW.out.of hG hb).mono ?_); rintro e w11 ⟨rfl, hb11⟩)
      replace hb := bto hb hb11
      clear hb11
      go_wp2
      go_ret
      exact ⟨rfl, hb⟩
  · have z1 : decide (0 < p) = false := decide_eq_false hp0
    have z2 : decide (0 < (p : Int)) = false := decide_eq_false (by omega)
    rw [z1]
    by_cases h12 : (p : Int) = 12
    · have e3 := intbeq h12
      clear h12
      go_wp2_with fail
      ((with_reducible refine (CW.out.of hG hb).mono ?_); rintro e w9 ⟨rfl, hb9⟩)
      replace hb := bto hb hb9
      clear hb9
      go_wp2
      go_ret
      exact ⟨rfl, hb⟩
    · have e3 := intbne h12
      have C6 := Lib.hid (C5.out (by omega))
      clear h12 C5
      go_wp2_with fail
      ((with_reducible refine (C6.out.of hG hb).mono ?_); rintro e w9 ⟨rfl, hb9⟩)
      replace hb := bto hb hb9
      clear hb9
      go_wp2_with fail
      ((with_reducible refine (CX.out.of hG hb).mono ?_); rintro e w10 ⟨rfl, hb10⟩)
      replace hb := bto hb hb10
      clear hb10
      go_wp2_with fail
      ((with_reducible refine (CW.out.of hG hb).mono ?_); rintro e w11 ⟨rfl, hb11⟩)
      replace hb := bto hb hb11
      clear hb11
      go_wp2
      go_ret
      exact ⟨rfl, hb⟩
end Go.Proofs.YtmmhimgkpfcokaaGreatDoor
