/- DecimalOrder. -/
import Derived.Test.YtmmhimgkpfcokaaGreatDoorLdist
namespace Go.Proofs.YtmmhimgkpfcokaaGreatDoor
open Go.RowKit Num
theorem round_add (p : Rat) (m v n : Int) (h : (5 ≤ m ∧ n = v) ∨ (n = v + v ∧ (m = 1 ∨ (1 ≤ m ∧ (decide (cmpQ p 0 < 0) != decide (cmpQ (p + (n : Rat)) 0 < 0)) = false)))) : rnd (p + (n : Rat)) m = rnd p m + n := by
  apply rnd_add
  rcases h with ⟨h, -⟩ | ⟨h, h1 | ⟨h1, h2⟩⟩
  · exact .inr (.inr h)
  · exact .inl ⟨h1, by omega⟩
  · by_cases hm : m = 1
    · exact .inl ⟨hm, by omega⟩
    · refine .inr (.inl ⟨?_, by omega⟩)
      have h3 : decide (cmpQ p 0 < 0) = decide (cmpQ (p + (n : Rat)) 0 < 0) := by simpa using h2
      rw [decide_eq_decide, cmpQ_neg, cmpQ_neg] at h3
      exact h3
set_option maxHeartbeats 8000000 in
set_option maxRecDepth 100000 in
theorem order_law (l l' k k' s : List UInt8) (b : Int) (hb0 : 0 ≤ b) (hb1 : b ≤ 255) (w : World) (hG : Glob w) :
    Calls Tryz.prog 7 #[(Value.agg #[Value.string ⟨List.toArray l⟩, Value.string ⟨List.toArray l'⟩]), (Value.agg #[Value.string ⟨List.toArray k⟩, Value.string ⟨List.toArray k'⟩]), .string ⟨s.toArray⟩, .int .u8 b] w fun e w' => e = .returned (.bool true) ∧ Below w.heap.size w w' := by
  have CW := Lib.hid wAwake3
  have CL := Lib.hid (eLongFrac l l')
  have CK := Lib.hid (eLongFrac k k')
  have CS := Lib.hid (eLong s)
  have x4 := (FBox.new w (.string ⟨l.toArray⟩) (.string ⟨l'.toArray⟩) 32).below (below_alloc _ (.cells #[.string ⟨k.toArray⟩, .string ⟨k'.toArray⟩] 32))
  have x5 := FBox.new (w.alloc (.cells #[.string ⟨l.toArray⟩, .string ⟨l'.toArray⟩] 32)) (.string ⟨k.toArray⟩) (.string ⟨k'.toArray⟩) 32
  rw [World.size_alloc] at x5
  have hb := bto (below_alloc w (.cells #[.string ⟨l.toArray⟩, .string ⟨l'.toArray⟩] 32)) (below_alloc _ (.cells #[.string ⟨k.toArray⟩, .string ⟨k'.toArray⟩] 32))
  go_enter Tryz.func7, Tryz.ntmps7
  have qx4_0 := x4.c0
  have qx4_1 := x4.c1
  go_wp2_with fail
  ((with_reducible refine (CL.out.of hG hb).mono ?_); rintro e w2 ⟨rfl, hb2⟩)
  clear qx4_0 qx4_1
  replace x4 := x4.below hb2
  replace x5 := x5.below hb2
  replace hb := bto hb hb2
  clear hb2
  cases hl1 : longB l l'
  rotate_left
  · clear x4
    clear x5
    go_wp2_with fail
    ((with_reducible refine (CW.out.of hG hb).mono ?_); rintro e w3 ⟨rfl, hb3⟩)
    replace hb := bto hb hb3
    clear hb3
    go_wp2
    go_ret
    exact ⟨rfl, hb⟩
  have qx5_0 := x5.c0
  have qx5_1 := x5.c1
  go_wp2_with fail
  ((with_reducible refine (CK.out.of hG hb).mono ?_); rintro e w3 ⟨rfl, hb3⟩)
  clear qx5_0 qx5_1
  replace x4 := x4.below hb3
  replace x5 := x5.below hb3
  replace hb := bto hb hb3
  clear hb3
  cases hl2 : longB k k'
  rotate_left
  · clear x4
    clear x5
    go_wp2_with fail
    ((with_reducible refine (CW.out.of hG hb).mono ?_); rintro e w4 ⟨rfl, hb4⟩)
    replace hb := bto hb hb4
    clear hb4
    go_wp2
    go_ret
    exact ⟨rfl, hb⟩
  obtain ⟨h0, h1⟩ := longB_f hl1
  obtain ⟨h2, h3⟩ := longB_f hl2
  clear hl1 hl2
  go_wp2_with fail
  ((with_reducible refine (CS.out.of hG hb).mono ?_); rintro e w4 ⟨rfl, hb4⟩)
  replace x4 := x4.below hb4
  replace x5 := x5.below hb4
  replace hb := bto hb hb4
  clear hb4
  by_cases hs : 60 < s.length
  · rw [decide_eq_true hs]
    clear hs
    clear x4
    clear x5
    go_wp2_with fail
    ((with_reducible refine (CW.out.of hG hb).mono ?_); rintro e w5 ⟨rfl, hb5⟩)
    replace hb := bto hb hb5
    clear hb5
    go_wp2
    go_ret
    exact ⟨rfl, hb⟩
  rw [decide_eq_false hs]
  have hs' : s.length ≤ 60 := by omega
  clear hs
  by_cases h120 : 120 < (l.length : Int) + (l'.length : Int) + (k.length : Int) + (k'.length : Int)
  · have e1 : decide (120 < (l.length : Int) + (l'.length : Int) + (k.length : Int) + (k'.length : Int)) = true := decide_eq_true h120
    have qx4_0 := x4.c0
    have qx4_1 := x4.c1
    have qx5_0 := x5.c0
    have qx5_1 := x5.c1
    go_wp2_with fail
    clear qx4_0 qx4_1 qx5_0 qx5_1
    clear x4
    clear x5
    ((with_reducible refine (CW.out.of hG hb).mono ?_); rintro e w5 ⟨rfl, hb5⟩)
    replace hb := bto hb hb5
    clear hb5
    go_wp2
    go_ret
    exact ⟨rfl, hb⟩
  have e120 : decide (120 < (l.length : Int) + (l'.length : Int) + (k.length : Int) + (k'.length : Int)) = false := decide_eq_false h120
  have iF := isq_raw h0 h1 (by decide)
  have bF : Bd 60 (fv l l') := bd_fv h0 h1 (by decide)
  have iK := isq_raw h2 h3 (by decide)
  have bK : Bd 60 (fv k k') := bd_fv h2 h3 (by decide)
  have bv : (val s).natAbs < 10 ^ 60 := val_lt_of hs'
  obtain ⟨m, hm⟩ : ∃ m : Int, m = 1 + b % 6 := ⟨_, rfl⟩
  have hmt := Lib.hid hm.symm
  have m1 : 1 ≤ m := by omega
  have m6 : m ≤ 6 := by omega
  generalize fv l l' = p at iF bF
  generalize fv k k' = q at iK bK
  have c1 := rRound iF bF (by decide) m1 m6 rfl
  have c2 := rRound iK bK (by decide) m1 m6 rfl
  have c3 := rCompare iF iK rfl
  have hz1 := rnd_bd bF m
  have hz2 := rnd_bd bK m
  have l1 := canon_len_le _ _ hz1
  have l2 := canon_len_le _ _ hz2
  have c4 := riCompare (l := canon (rnd p m)) (l' := canon (rnd q m)) (by omega) (by omega) (show cmpZ (val (canon (rnd p m))) (val (canon (rnd q m))) = cmpZ (rnd p m) (rnd q m) by rw [val_canon, val_canon])
  have hle : cmpQ p q ≤ 0 → cmpZ (rnd p m) (rnd q m) ≤ 0 := fun h => cmpZ_le (rnd_mono m (le_cmpQ h))
  have hge : 0 ≤ cmpQ p q → 0 ≤ cmpZ (rnd p m) (rnd q m) := fun h => cmpZ_ge (rnd_mono m (ge_cmpQ h))
  have hcb := cmpQ_bound p q
  have hv2 : (val s + val s).natAbs < 10 ^ 61 := by rw [Nat.pow_succ]; omega
  have c5 := riAdd (l := s) (l' := s) (by omega) (by omega) rfl
  have b1 := bd_int bv (by decide)
  have b2 := bd_int hv2 (by decide)
  have cO1 := rOf (l := s) (by omega) rfl
  have cO2 := rOf (l := canon (val s + val s)) (canon_len_of hv2 (by decide)) (val_canon _)
  have cA1 := rAdd iF (isq_fr b1 (by decide)) rfl
  have cA2 := rAdd iF (isq_fr b2 (by decide)) rfl
  have bs1 := bd_add bF b1
  have bs2 := bd_add bF b2
  have cR0 := wRatio (n := 0) (d := 1) (by decide) (by decide) (by decide) (show Rat.divInt 0 1 = 0 by decide +kernel)
  have b0 : Bd 1 (0 : Rat) := ⟨by decide, by decide⟩
  have cC1 := rCompare iF (isq_fr b0 (by decide)) rfl
  have cC2 := rCompare (isq_fr bs2 (by decide)) (isq_fr b0 (by decide)) rfl
  have hr1 : 5 ≤ m → Ret 48 _ _ := fun h => rRound (isq_fr bs1 (by decide)) bs1 (by decide) m1 m6 (round_add p m (val s) (val s) (.inl ⟨h, rfl⟩))
  have hr2 : (m = 1 ∨ (1 ≤ m ∧ (decide (cmpQ p 0 < 0) != decide (cmpQ (p + ((val s + val s : Int) : Rat)) 0 < 0)) = false)) → Ret 48 _ _ := fun h => rRound (isq_fr bs2 (by decide)) bs2 (by decide) m1 m6 (round_add p m (val s) (val s + val s) (.inr ⟨rfl, h⟩))
  have cS1 := riAdd (l := canon (rnd p m)) (l' := s) (by omega) (by omega) (show val (canon (rnd p m)) + val s = rnd p m + val s by rw [val_canon])
  have cS2 := riAdd (l := canon (rnd p m)) (l' := canon (val s + val s)) (by omega) (canon_len_of hv2 (by decide)) (show val (canon (rnd p m)) + val (canon (val s + val s)) = rnd p m + (val s + val s) by rw [val_canon, val_canon])
  clear hz1 hz2 l1 l2 hv2 b1 b2 bs1 bs2 b0 iF iK bF bK bv h0 h1 h2 h3 hs' hm
  generalize canon (rnd p m + val s) = S1 at *
  generalize canon (rnd p m + (val s + val s)) = S2 at *
  generalize canon (rnd p m) = RA at *
  generalize canon (rnd q m) = RB at *
  generalize cmpZ (rnd p m) (rnd q m) = cz at *
  generalize cmpQ p q = cq at *
  generalize cmpQ p 0 = ca at *
  generalize cmpQ (p + ((val s + val s : Int) : Rat)) 0 = cb at *
  generalize fN (p + ((val s + val s : Int) : Rat)) = A0 at *
  generalize fD (p + ((val s + val s : Int) : Rat)) = A1 at *
  generalize fN (p + ((val s : Int) : Rat)) = B0 at *
  generalize fD (p + ((val s : Int) : Rat)) = B1 at *
  generalize fN ((val s : Int) : Rat) = V0 at *
  generalize fD ((val s : Int) : Rat) = V1 at *
  generalize fN ((val s + val s : Int) : Rat) = U0 at *
  generalize fD ((val s + val s : Int) : Rat) = U1 at *
  generalize canon (val s + val s) = T2 at *
  generalize fN (0 : Rat) = Z0 at *
  generalize fD (0 : Rat) = Z1 at *
  have C1 := Lib.hid c1
  have C2 := Lib.hid c2
  have C3 := Lib.hid c3
  have C4 := Lib.hid c4
  have C5 := Lib.hid c5
  have O1 := Lib.hid cO1
  have O2 := Lib.hid cO2
  have A1c := Lib.hid cA1
  have A2c := Lib.hid cA2
  have R0 := Lib.hid cR0
  have CC1 := Lib.hid cC1
  have CC2 := Lib.hid cC2
  have HR1 := Lib.hid hr1
  have HR2 := Lib.hid hr2
  have S1c := Lib.hid cS1
  have S2c := Lib.hid cS2
  have HLe := Lib.hid hle
  have HGe := Lib.hid hge
  have HCB := Lib.hid hcb
  clear c1 c2 c3 c4 c5 cO1 cO2 cA1 cA2 cR0 cC1 cC2 hr1 hr2 cS1 cS2 hle hge hcb
  have qx4_0 := x4.c0
  have qx4_1 := x4.c1
  have qx5_0 := x5.c0
  have qx5_1 := x5.c1
  go_wp2_with fail
  clear qx4_0 qx4_1 qx5_0 qx5_1
  rw [hmt.out]
  clear e120 h120 hmt hb0 hb1
  ((with_reducible refine (C1.out.of hG hb).mono ?_); rintro e w5 ⟨rfl, hb5⟩)
  replace x4 := x4.below hb5
  replace x5 := x5.below hb5
  replace hb := bto hb hb5
  clear hb5
  have qx5_0 := x5.c0
  have qx5_1 := x5.c1
  go_wp2_with fail
  ((with_reducible refine (C2.out.of hG hb).mono ?_); rintro e w6 ⟨rfl, hb6⟩)
  clear qx5_0 qx5_1
  replace x4 := x4.below hb6
  replace x5 := x5.below hb6
  replace hb := bto hb hb6
  clear hb6
  rcases HCB.out with rfl | rfl | rfl
  · have k1 := HLe.out (by decide)
    have k2 : decide (0 < cz) = false := decide_eq_false (by omega)
    have k2' : ¬ 0 < cz := by omega
    have qx4_0 := x4.c0
    have qx4_1 := x4.c1
    have qx5_0 := x5.c0
    have qx5_1 := x5.c1
    go_wp2_with fail
    ((with_reducible refine (C3.out.of hG hb).mono ?_); rintro e w7 ⟨rfl, hb7⟩)
    clear qx4_0 qx4_1 qx5_0 qx5_1
    replace x4 := x4.below hb7
    replace x5 := x5.below hb7
    replace hb := bto hb hb7
    clear hb7
    go_wp2_with fail
    ((with_reducible refine (C4.out.of hG hb).mono ?_); rintro e w8 ⟨rfl, hb8⟩)
    replace x4 := x4.below hb8
    replace x5 := x5.below hb8
    replace hb := bto hb hb8
    clear hb8
    have qx4_0 := x4.c0
    have qx4_1 := x4.c1
    have qx5_0 := x5.c0
    have qx5_1 := x5.c1
    go_wp2_with fail
    ((with_reducible refine (C3.out.of hG hb).mono ?_); rintro e w9 ⟨rfl, hb9⟩)
    clear qx4_0 qx4_1 qx5_0 qx5_1
    replace x4 := x4.below hb9
    replace x5 := x5.below hb9
    replace hb := bto hb hb9
    clear hb9
    clear x5
    by_cases m5 : m < 5
    rotate_left
    · have m5' : decide (m < 5) = false := decide_eq_false m5
      have CR := Lib.hid (HR1.out (by omega))
      clear HR1 HR2
      go_wp2_with fail
      refine wp_region_kept (by kernel_rfl) (by kernel_rfl) ?_
      refine kept_val _ (fun _ => rfl) (fun ρ w hw => by have q0 := (x4.below hw).c0; have q1 := (x4.below hw).c1; go_simp; first | done | with_reducible rfl) ?_
      simp only [Act.put, List.setIfInBounds_toArray, List.set_cons_zero, List.set_cons_succ, Nat.reduceAdd]
      refine kept_val _ (fun _ => rfl) (fun ρ w hw => by go_simp; first | done | with_reducible rfl) ?_
      simp only [Act.put, List.setIfInBounds_toArray, List.set_cons_zero, List.set_cons_succ, Nat.reduceAdd]
      refine kept_call _ _ _ (fun _ => rfl) (fun ρ w hw => by go_simp; first | done | with_reducible rfl) (fun w hw => O1.out.of hG (bto hb hw)) ?_
      simp only [Act.put, List.setIfInBounds_toArray, List.set_cons_zero, List.set_cons_succ, Nat.reduceAdd]
      refine kept_call _ _ _ (fun _ => rfl) (fun ρ w hw => by go_simp; first | done | with_reducible rfl) (fun w hw => A1c.out.of hG (bto hb hw)) ?_
      simp only [Act.put, List.setIfInBounds_toArray, List.set_cons_zero, List.set_cons_succ, Nat.reduceAdd]
      refine kept_val _ (fun _ => rfl) (fun ρ w hw => by go_simp; first | done | with_reducible rfl) ?_
      simp only [Act.put, List.setIfInBounds_toArray, List.set_cons_zero, List.set_cons_succ, Nat.reduceAdd]
      refine kept_call _ _ _ (fun _ => rfl) (fun ρ w hw => by go_simp; first | done | with_reducible rfl) (fun w hw => CR.out.of hG (bto hb hw)) ?_
      simp only [Act.put, List.setIfInBounds_toArray, List.set_cons_zero, List.set_cons_succ, Nat.reduceAdd]
      refine kept_val _ (fun _ => rfl) (fun ρ w hw => by go_simp; first | done | with_reducible rfl) ?_
      simp only [Act.put, List.setIfInBounds_toArray, List.set_cons_zero, List.set_cons_succ, Nat.reduceAdd]
      refine kept_val _ (fun _ => rfl) (fun ρ w hw => by go_simp; first | done | with_reducible rfl) ?_
      simp only [Act.put, List.setIfInBounds_toArray, List.set_cons_zero, List.set_cons_succ, Nat.reduceAdd]
      refine kept_val _ (fun _ => rfl) (fun ρ w hw => by go_simp; first | done | with_reducible rfl) ?_
      simp only [Act.put, List.setIfInBounds_toArray, List.set_cons_zero, List.set_cons_succ, Nat.reduceAdd]
      refine kept_val _ (fun _ => rfl) (fun ρ w hw => by go_simp; first | done | with_reducible rfl) ?_
      simp only [Act.put, List.setIfInBounds_toArray, List.set_cons_zero, List.set_cons_succ, Nat.reduceAdd]
      refine kept_val _ (fun _ => rfl) (fun ρ w hw => by go_simp; first | done | with_reducible rfl) ?_
      simp only [Act.put, List.setIfInBounds_toArray, List.set_cons_zero, List.set_cons_succ, Nat.reduceAdd]
      refine kept_end (fun ρ w10 hF => ?_)
      replace x4 := x4.below hF.below
      replace hb := bto hb hF.below
      clear hF
      go_wp2_with fail
      ((with_reducible refine (S1c.out.of hG hb).mono ?_); rintro e w11 ⟨rfl, hb11⟩)
      replace x4 := x4.below hb11
      replace hb := bto hb hb11
      clear hb11
      go_wp2_with fail
      ((with_reducible refine (CW.out.of hG hb).mono ?_); rintro e w12 ⟨rfl, hb12⟩)
      replace x4 := x4.below hb12
      replace hb := bto hb hb12
      clear hb12
      go_wp2
      go_ret
      exact ⟨rfl, hb⟩
    have m5' : decide (m < 5) = true := decide_eq_true m5
    go_wp2_with fail
    ((with_reducible refine (C5.out.of hG hb).mono ?_); rintro e w10 ⟨rfl, hb10⟩)
    replace x4 := x4.below hb10
    replace hb := bto hb hb10
    clear hb10
    go_wp2_with fail
    refine wp_region_kept (by kernel_rfl) (by kernel_rfl) ?_
    refine kept_val _ (fun _ => rfl) (fun ρ w hw => by have q0 := (x4.below hw).c0; have q1 := (x4.below hw).c1; go_simp; first | done | with_reducible rfl) ?_
    simp only [Act.put, List.setIfInBounds_toArray, List.set_cons_zero, List.set_cons_succ, Nat.reduceAdd]
    refine kept_val _ (fun _ => rfl) (fun ρ w hw => by go_simp; first | done | with_reducible rfl) ?_
    simp only [Act.put, List.setIfInBounds_toArray, List.set_cons_zero, List.set_cons_succ, Nat.reduceAdd]
    refine kept_call _ _ _ (fun _ => rfl) (fun ρ w hw => by go_simp; first | done | with_reducible rfl) (fun w hw => O2.out.of hG (bto hb hw)) ?_
    simp only [Act.put, List.setIfInBounds_toArray, List.set_cons_zero, List.set_cons_succ, Nat.reduceAdd]
    refine kept_call _ _ _ (fun _ => rfl) (fun ρ w hw => by go_simp; first | done | with_reducible rfl) (fun w hw => A2c.out.of hG (bto hb hw)) ?_
    simp only [Act.put, List.setIfInBounds_toArray, List.set_cons_zero, List.set_cons_succ, Nat.reduceAdd]
    refine kept_box (fun b => .pointer (some ⟨b, 0, none⟩)) _ rfl (fun _ => rfl) (fun ρ w hw => by go_simp; first | done | with_reducible rfl) ?_
    simp only [Act.put, List.setIfInBounds_toArray, List.set_cons_zero, List.set_cons_succ, Nat.reduceAdd]
    refine kept_put2 4 _ 14 _ _ _ _ _ rfl rfl rfl (by decide) (fun _ => rfl) (fun ρ w hw q0 q1 q2 q3 => by go_simp; first | done | with_reducible rfl) ?_
    simp only [Act.put, Nat.reduceAdd]
    refine kept_end (fun ρ w11 hF => ?_)
    replace x4 := x4.below hF.below
    replace hb := bto hb hF.below
    have x14 := FBox.ofB (hF.box 4 _ _ rfl).2
    generalize ρ 4 = b14 at *
    clear hF
    go_wp2_with fail
    ((with_reducible refine (R0.out.of hG hb).mono ?_); rintro e w12 ⟨rfl, hb12⟩)
    replace x4 := x4.below hb12
    replace x14 := x14.below hb12
    replace hb := bto hb hb12
    clear hb12
    replace x4 := x4.below (below_alloc w12 (.cells #[.string ⟨Z0.toArray⟩, .string ⟨Z1.toArray⟩] 32))
    replace x14 := x14.below (below_alloc w12 (.cells #[.string ⟨Z0.toArray⟩, .string ⟨Z1.toArray⟩] 32))
    have x15 := FBox.new w12 (.string ⟨Z0.toArray⟩) (.string ⟨Z1.toArray⟩) 32
    replace hb := bto hb (below_alloc w12 (.cells #[.string ⟨Z0.toArray⟩, .string ⟨Z1.toArray⟩] 32))
    by_cases mm : m = 1
    · have e1 := intbeq mm
      have e2 := bneq e1
      have CR := Lib.hid (HR2.out (.inl mm))
      clear mm HR1 HR2
      go_wp2_with fail
      refine wp_region_kept (by kernel_rfl) (by kernel_rfl) ?_
      refine kept_val _ (fun _ => rfl) (fun ρ w hw => by go_simp; first | done | with_reducible rfl) ?_
      simp only [Act.put, List.setIfInBounds_toArray, List.set_cons_zero, List.set_cons_succ, Nat.reduceAdd]
      refine kept_val _ (fun _ => rfl) (fun ρ w hw => by go_simp; first | done | with_reducible rfl) ?_
      simp only [Act.put, List.setIfInBounds_toArray, List.set_cons_zero, List.set_cons_succ, Nat.reduceAdd]
      refine kept_val _ (fun _ => rfl) (fun ρ w hw => by go_simp; first | done | with_reducible rfl) ?_
      simp only [Act.put, List.setIfInBounds_toArray, List.set_cons_zero, List.set_cons_succ, Nat.reduceAdd]
      refine kept_off (fun _ => rfl) ?_
      simp only [Act.put, List.setIfInBounds_toArray, List.set_cons_zero, List.set_cons_succ, Nat.reduceAdd]
      refine kept_off (fun _ => rfl) ?_
      simp only [Act.put, List.setIfInBounds_toArray, List.set_cons_zero, List.set_cons_succ, Nat.reduceAdd]
      refine kept_off (fun _ => rfl) ?_
      simp only [Act.put, List.setIfInBounds_toArray, List.set_cons_zero, List.set_cons_succ, Nat.reduceAdd]
      refine kept_off (fun _ => rfl) ?_
      simp only [Act.put, List.setIfInBounds_toArray, List.set_cons_zero, List.set_cons_succ, Nat.reduceAdd]
      refine kept_off (fun _ => rfl) ?_
      simp only [Act.put, List.setIfInBounds_toArray, List.set_cons_zero, List.set_cons_succ, Nat.reduceAdd]
      refine kept_off (fun _ => rfl) ?_
      simp only [Act.put, List.setIfInBounds_toArray, List.set_cons_zero, List.set_cons_succ, Nat.reduceAdd]
      refine kept_off (fun _ => rfl) ?_
      simp only [Act.put, List.setIfInBounds_toArray, List.set_cons_zero, List.set_cons_succ, Nat.reduceAdd]
      refine kept_off (fun _ => rfl) ?_
      simp only [Act.put, List.setIfInBounds_toArray, List.set_cons_zero, List.set_cons_succ, Nat.reduceAdd]
      refine kept_off (fun _ => rfl) ?_
      simp only [Act.put, List.setIfInBounds_toArray, List.set_cons_zero, List.set_cons_succ, Nat.reduceAdd]
      refine kept_val _ (fun _ => rfl) (fun ρ w hw => by go_simp; first | done | with_reducible rfl) ?_
      simp only [Act.put, List.setIfInBounds_toArray, List.set_cons_zero, List.set_cons_succ, Nat.reduceAdd]
      refine kept_end (fun ρ w13 hF => ?_)
      replace x4 := x4.below hF.below
      replace x14 := x14.below hF.below
      replace x15 := x15.below hF.below
      replace hb := bto hb hF.below
      clear hF
      clear x14
      clear x15
      go_wp2_with fail
      refine wp_region_kept (by kernel_rfl) (by kernel_rfl) ?_
      refine kept_val _ (fun _ => rfl) (fun ρ w hw => by have q0 := (x4.below hw).c0; have q1 := (x4.below hw).c1; go_simp; first | done | with_reducible rfl) ?_
      simp only [Act.put, List.setIfInBounds_toArray, List.set_cons_zero, List.set_cons_succ, Nat.reduceAdd]
      refine kept_val _ (fun _ => rfl) (fun ρ w hw => by go_simp; first | done | with_reducible rfl) ?_
      simp only [Act.put, List.setIfInBounds_toArray, List.set_cons_zero, List.set_cons_succ, Nat.reduceAdd]
      refine kept_call _ _ _ (fun _ => rfl) (fun ρ w hw => by go_simp; first | done | with_reducible rfl) (fun w hw => O2.out.of hG (bto hb hw)) ?_
      simp only [Act.put, List.setIfInBounds_toArray, List.set_cons_zero, List.set_cons_succ, Nat.reduceAdd]
      refine kept_call _ _ _ (fun _ => rfl) (fun ρ w hw => by go_simp; first | done | with_reducible rfl) (fun w hw => A2c.out.of hG (bto hb hw)) ?_
      simp only [Act.put, List.setIfInBounds_toArray, List.set_cons_zero, List.set_cons_succ, Nat.reduceAdd]
      refine kept_val _ (fun _ => rfl) (fun ρ w hw => by go_simp; first | done | with_reducible rfl) ?_
      simp only [Act.put, List.setIfInBounds_toArray, List.set_cons_zero, List.set_cons_succ, Nat.reduceAdd]
      refine kept_call _ _ _ (fun _ => rfl) (fun ρ w hw => by go_simp; first | done | with_reducible rfl) (fun w hw => CR.out.of hG (bto hb hw)) ?_
      simp only [Act.put, List.setIfInBounds_toArray, List.set_cons_zero, List.set_cons_succ, Nat.reduceAdd]
      refine kept_val _ (fun _ => rfl) (fun ρ w hw => by go_simp; first | done | with_reducible rfl) ?_
      simp only [Act.put, List.setIfInBounds_toArray, List.set_cons_zero, List.set_cons_succ, Nat.reduceAdd]
      refine kept_val _ (fun _ => rfl) (fun ρ w hw => by go_simp; first | done | with_reducible rfl) ?_
      simp only [Act.put, List.setIfInBounds_toArray, List.set_cons_zero, List.set_cons_succ, Nat.reduceAdd]
      refine kept_val _ (fun _ => rfl) (fun ρ w hw => by go_simp; first | done | with_reducible rfl) ?_
      simp only [Act.put, List.setIfInBounds_toArray, List.set_cons_zero, List.set_cons_succ, Nat.reduceAdd]
      refine kept_val _ (fun _ => rfl) (fun ρ w hw => by go_simp; first | done | with_reducible rfl) ?_
      simp only [Act.put, List.setIfInBounds_toArray, List.set_cons_zero, List.set_cons_succ, Nat.reduceAdd]
      refine kept_val _ (fun _ => rfl) (fun ρ w hw => by go_simp; first | done | with_reducible rfl) ?_
      simp only [Act.put, List.setIfInBounds_toArray, List.set_cons_zero, List.set_cons_succ, Nat.reduceAdd]
      refine kept_end (fun ρ w14 hF => ?_)
      replace x4 := x4.below hF.below
      replace hb := bto hb hF.below
      clear hF
      go_wp2_with fail
      ((with_reducible refine (S2c.out.of hG hb).mono ?_); rintro e w15 ⟨rfl, hb15⟩)
      replace x4 := x4.below hb15
      replace hb := bto hb hb15
      clear hb15
      go_wp2_with fail
      ((with_reducible refine (CW.out.of hG hb).mono ?_); rintro e w16 ⟨rfl, hb16⟩)
      replace x4 := x4.below hb16
      replace hb := bto hb hb16
      clear hb16
      go_wp2
      go_ret
      exact ⟨rfl, hb⟩
    have e1 := intbne mm
    have e2 := bneq' e1
    clear mm
    by_cases ha : ca < 0
    · have ha' : decide (ca < 0) = true := decide_eq_true ha
      by_cases hbb : cb < 0
      · have hbb' : decide (cb < 0) = true := decide_eq_true hbb
        have CR := Lib.hid (HR2.out (.inr ⟨m1, by rw [ha', hbb']; rfl⟩))
        clear HR1 HR2
        go_wp2_with fail
        refine wp_region_kept (by kernel_rfl) (by kernel_rfl) ?_
        refine kept_val _ (fun _ => rfl) (fun ρ w hw => by go_simp; first | done | with_reducible rfl) ?_
        simp only [Act.put, List.setIfInBounds_toArray, List.set_cons_zero, List.set_cons_succ, Nat.reduceAdd]
        refine kept_val _ (fun _ => rfl) (fun ρ w hw => by go_simp; first | done | with_reducible rfl) ?_
        simp only [Act.put, List.setIfInBounds_toArray, List.set_cons_zero, List.set_cons_succ, Nat.reduceAdd]
        refine kept_val _ (fun _ => rfl) (fun ρ w hw => by go_simp; first | done | with_reducible rfl) ?_
        simp only [Act.put, List.setIfInBounds_toArray, List.set_cons_zero, List.set_cons_succ, Nat.reduceAdd]
        refine kept_val _ (fun _ => rfl) (fun ρ w hw => by have q0 := (x4.below hw).c0; have q1 := (x4.below hw).c1; go_simp; first | done | with_reducible rfl) ?_
        simp only [Act.put, List.setIfInBounds_toArray, List.set_cons_zero, List.set_cons_succ, Nat.reduceAdd]
        refine kept_val _ (fun _ => rfl) (fun ρ w hw => by have q0 := (x15.below hw).c0; have q1 := (x15.below hw).c1; go_simp; first | done | with_reducible rfl) ?_
        simp only [Act.put, List.setIfInBounds_toArray, List.set_cons_zero, List.set_cons_succ, Nat.reduceAdd]
        refine kept_call _ _ _ (fun _ => rfl) (fun ρ w hw => by go_simp; first | done | with_reducible rfl) (fun w hw => CC1.out.of hG (bto hb hw)) ?_
        simp only [Act.put, List.setIfInBounds_toArray, List.set_cons_zero, List.set_cons_succ, Nat.reduceAdd]
        refine kept_val _ (fun _ => rfl) (fun ρ w hw => by go_simp; first | done | with_reducible rfl) ?_
        simp only [Act.put, List.setIfInBounds_toArray, List.set_cons_zero, List.set_cons_succ, Nat.reduceAdd]
        refine kept_val _ (fun _ => rfl) (fun ρ w hw => by have q0 := (x14.below hw).c0; have q1 := (x14.below hw).c1; go_simp; first | done | with_reducible rfl) ?_
        simp only [Act.put, List.setIfInBounds_toArray, List.set_cons_zero, List.set_cons_succ, Nat.reduceAdd]
        refine kept_val _ (fun _ => rfl) (fun ρ w hw => by have q0 := (x15.below hw).c0; have q1 := (x15.below hw).c1; go_simp; first | done | with_reducible rfl) ?_
        simp only [Act.put, List.setIfInBounds_toArray, List.set_cons_zero, List.set_cons_succ, Nat.reduceAdd]
        refine kept_call _ _ _ (fun _ => rfl) (fun ρ w hw => by go_simp; first | done | with_reducible rfl) (fun w hw => CC2.out.of hG (bto hb hw)) ?_
        simp only [Act.put, List.setIfInBounds_toArray, List.set_cons_zero, List.set_cons_succ, Nat.reduceAdd]
        refine kept_val _ (fun _ => rfl) (fun ρ w hw => by go_simp; first | done | with_reducible rfl) ?_
        simp only [Act.put, List.setIfInBounds_toArray, List.set_cons_zero, List.set_cons_succ, Nat.reduceAdd]
        refine kept_val _ (fun _ => rfl) (fun ρ w hw => by go_simp; first | done | with_reducible rfl) ?_
        simp only [Act.put, List.setIfInBounds_toArray, List.set_cons_zero, List.set_cons_succ, Nat.reduceAdd]
        refine kept_val _ (fun _ => rfl) (fun ρ w hw => by go_simp; first | done | with_reducible rfl) ?_
        simp only [Act.put, List.setIfInBounds_toArray, List.set_cons_zero, List.set_cons_succ, Nat.reduceAdd]
        refine kept_end (fun ρ w13 hF => ?_)
        replace x4 := x4.below hF.below
        replace x14 := x14.below hF.below
        replace x15 := x15.below hF.below
        replace hb := bto hb hF.below
        clear hF
        clear x14
        clear x15
        clear ha ha' hbb hbb'
        go_wp2_with fail
        refine wp_region_kept (by kernel_rfl) (by kernel_rfl) ?_
        refine kept_val _ (fun _ => rfl) (fun ρ w hw => by have q0 := (x4.below hw).c0; have q1 := (x4.below hw).c1; go_simp; first | done | with_reducible rfl) ?_
        simp only [Act.put, List.setIfInBounds_toArray, List.set_cons_zero, List.set_cons_succ, Nat.reduceAdd]
        refine kept_val _ (fun _ => rfl) (fun ρ w hw => by go_simp; first | done | with_reducible rfl) ?_
        simp only [Act.put, List.setIfInBounds_toArray, List.set_cons_zero, List.set_cons_succ, Nat.reduceAdd]
        refine kept_call _ _ _ (fun _ => rfl) (fun ρ w hw => by go_simp; first | done | with_reducible rfl) (fun w hw => O2.out.of hG (bto hb hw)) ?_
        simp only [Act.put, List.setIfInBounds_toArray, List.set_cons_zero, List.set_cons_succ, Nat.reduceAdd]
        refine kept_call _ _ _ (fun _ => rfl) (fun ρ w hw => by go_simp; first | done | with_reducible rfl) (fun w hw => A2c.out.of hG (bto hb hw)) ?_
        simp only [Act.put, List.setIfInBounds_toArray, List.set_cons_zero, List.set_cons_succ, Nat.reduceAdd]
        refine kept_val _ (fun _ => rfl) (fun ρ w hw => by go_simp; first | done | with_reducible rfl) ?_
        simp only [Act.put, List.setIfInBounds_toArray, List.set_cons_zero, List.set_cons_succ, Nat.reduceAdd]
        refine kept_call _ _ _ (fun _ => rfl) (fun ρ w hw => by go_simp; first | done | with_reducible rfl) (fun w hw => CR.out.of hG (bto hb hw)) ?_
        simp only [Act.put, List.setIfInBounds_toArray, List.set_cons_zero, List.set_cons_succ, Nat.reduceAdd]
        refine kept_val _ (fun _ => rfl) (fun ρ w hw => by go_simp; first | done | with_reducible rfl) ?_
        simp only [Act.put, List.setIfInBounds_toArray, List.set_cons_zero, List.set_cons_succ, Nat.reduceAdd]
        refine kept_val _ (fun _ => rfl) (fun ρ w hw => by go_simp; first | done | with_reducible rfl) ?_
        simp only [Act.put, List.setIfInBounds_toArray, List.set_cons_zero, List.set_cons_succ, Nat.reduceAdd]
        refine kept_val _ (fun _ => rfl) (fun ρ w hw => by go_simp; first | done | with_reducible rfl) ?_
        simp only [Act.put, List.setIfInBounds_toArray, List.set_cons_zero, List.set_cons_succ, Nat.reduceAdd]
        refine kept_val _ (fun _ => rfl) (fun ρ w hw => by go_simp; first | done | with_reducible rfl) ?_
        simp only [Act.put, List.setIfInBounds_toArray, List.set_cons_zero, List.set_cons_succ, Nat.reduceAdd]
        refine kept_val _ (fun _ => rfl) (fun ρ w hw => by go_simp; first | done | with_reducible rfl) ?_
        simp only [Act.put, List.setIfInBounds_toArray, List.set_cons_zero, List.set_cons_succ, Nat.reduceAdd]
        refine kept_end (fun ρ w14 hF => ?_)
        replace x4 := x4.below hF.below
        replace hb := bto hb hF.below
        clear hF
        go_wp2_with fail
        ((with_reducible refine (S2c.out.of hG hb).mono ?_); rintro e w15 ⟨rfl, hb15⟩)
        replace x4 := x4.below hb15
        replace hb := bto hb hb15
        clear hb15
        go_wp2_with fail
        ((with_reducible refine (CW.out.of hG hb).mono ?_); rintro e w16 ⟨rfl, hb16⟩)
        replace x4 := x4.below hb16
        replace hb := bto hb hb16
        clear hb16
        go_wp2
        go_ret
        exact ⟨rfl, hb⟩
      · have hbb' : decide (cb < 0) = false := decide_eq_false hbb
        go_wp2_with fail
        refine wp_region_kept (by kernel_rfl) (by kernel_rfl) ?_
        refine kept_val _ (fun _ => rfl) (fun ρ w hw => by go_simp; first | done | with_reducible rfl) ?_
        simp only [Act.put, List.setIfInBounds_toArray, List.set_cons_zero, List.set_cons_succ, Nat.reduceAdd]
        refine kept_val _ (fun _ => rfl) (fun ρ w hw => by go_simp; first | done | with_reducible rfl) ?_
        simp only [Act.put, List.setIfInBounds_toArray, List.set_cons_zero, List.set_cons_succ, Nat.reduceAdd]
        refine kept_val _ (fun _ => rfl) (fun ρ w hw => by go_simp; first | done | with_reducible rfl) ?_
        simp only [Act.put, List.setIfInBounds_toArray, List.set_cons_zero, List.set_cons_succ, Nat.reduceAdd]
        refine kept_val _ (fun _ => rfl) (fun ρ w hw => by have q0 := (x4.below hw).c0; have q1 := (x4.below hw).c1; go_simp; first | done | with_reducible rfl) ?_
        simp only [Act.put, List.setIfInBounds_toArray, List.set_cons_zero, List.set_cons_succ, Nat.reduceAdd]
        refine kept_val _ (fun _ => rfl) (fun ρ w hw => by have q0 := (x15.below hw).c0; have q1 := (x15.below hw).c1; go_simp; first | done | with_reducible rfl) ?_
        simp only [Act.put, List.setIfInBounds_toArray, List.set_cons_zero, List.set_cons_succ, Nat.reduceAdd]
        refine kept_call _ _ _ (fun _ => rfl) (fun ρ w hw => by go_simp; first | done | with_reducible rfl) (fun w hw => CC1.out.of hG (bto hb hw)) ?_
        simp only [Act.put, List.setIfInBounds_toArray, List.set_cons_zero, List.set_cons_succ, Nat.reduceAdd]
        refine kept_val _ (fun _ => rfl) (fun ρ w hw => by go_simp; first | done | with_reducible rfl) ?_
        simp only [Act.put, List.setIfInBounds_toArray, List.set_cons_zero, List.set_cons_succ, Nat.reduceAdd]
        refine kept_val _ (fun _ => rfl) (fun ρ w hw => by have q0 := (x14.below hw).c0; have q1 := (x14.below hw).c1; go_simp; first | done | with_reducible rfl) ?_
        simp only [Act.put, List.setIfInBounds_toArray, List.set_cons_zero, List.set_cons_succ, Nat.reduceAdd]
        refine kept_val _ (fun _ => rfl) (fun ρ w hw => by have q0 := (x15.below hw).c0; have q1 := (x15.below hw).c1; go_simp; first | done | with_reducible rfl) ?_
        simp only [Act.put, List.setIfInBounds_toArray, List.set_cons_zero, List.set_cons_succ, Nat.reduceAdd]
        refine kept_call _ _ _ (fun _ => rfl) (fun ρ w hw => by go_simp; first | done | with_reducible rfl) (fun w hw => CC2.out.of hG (bto hb hw)) ?_
        simp only [Act.put, List.setIfInBounds_toArray, List.set_cons_zero, List.set_cons_succ, Nat.reduceAdd]
        refine kept_val _ (fun _ => rfl) (fun ρ w hw => by go_simp; first | done | with_reducible rfl) ?_
        simp only [Act.put, List.setIfInBounds_toArray, List.set_cons_zero, List.set_cons_succ, Nat.reduceAdd]
        refine kept_val _ (fun _ => rfl) (fun ρ w hw => by go_simp; first | done | with_reducible rfl) ?_
        simp only [Act.put, List.setIfInBounds_toArray, List.set_cons_zero, List.set_cons_succ, Nat.reduceAdd]
        refine kept_val _ (fun _ => rfl) (fun ρ w hw => by go_simp; first | done | with_reducible rfl) ?_
        simp only [Act.put, List.setIfInBounds_toArray, List.set_cons_zero, List.set_cons_succ, Nat.reduceAdd]
        refine kept_end (fun ρ w13 hF => ?_)
        replace x4 := x4.below hF.below
        replace x14 := x14.below hF.below
        replace x15 := x15.below hF.below
        replace hb := bto hb hF.below
        clear hF
        clear x14
        clear x15
        clear ha ha' hbb hbb'
        clear x4
        go_wp2_with fail
        ((with_reducible refine (CW.out.of hG hb).mono ?_); rintro e w14 ⟨rfl, hb14⟩)
        replace hb := bto hb hb14
        clear hb14
        go_wp2
        go_ret
        exact ⟨rfl, hb⟩
    · have ha' : decide (ca < 0) = false := decide_eq_false ha
      by_cases hbb : cb < 0
      · have hbb' : decide (cb < 0) = true := decide_eq_true hbb
        go_wp2_with fail
        refine wp_region_kept (by kernel_rfl) (by kernel_rfl) ?_
        refine kept_val _ (fun _ => rfl) (fun ρ w hw => by go_simp; first | done | with_reducible rfl) ?_
        simp only [Act.put, List.setIfInBounds_toArray, List.set_cons_zero, List.set_cons_succ, Nat.reduceAdd]
        refine kept_val _ (fun _ => rfl) (fun ρ w hw => by go_simp; first | done | with_reducible rfl) ?_
        simp only [Act.put, List.setIfInBounds_toArray, List.set_cons_zero, List.set_cons_succ, Nat.reduceAdd]
        refine kept_val _ (fun _ => rfl) (fun ρ w hw => by go_simp; first | done | with_reducible rfl) ?_
        simp only [Act.put, List.setIfInBounds_toArray, List.set_cons_zero, List.set_cons_succ, Nat.reduceAdd]
        refine kept_val _ (fun _ => rfl) (fun ρ w hw => by have q0 := (x4.below hw).c0; have q1 := (x4.below hw).c1; go_simp; first | done | with_reducible rfl) ?_
        simp only [Act.put, List.setIfInBounds_toArray, List.set_cons_zero, List.set_cons_succ, Nat.reduceAdd]
        refine kept_val _ (fun _ => rfl) (fun ρ w hw => by have q0 := (x15.below hw).c0; have q1 := (x15.below hw).c1; go_simp; first | done | with_reducible rfl) ?_
        simp only [Act.put, List.setIfInBounds_toArray, List.set_cons_zero, List.set_cons_succ, Nat.reduceAdd]
        refine kept_call _ _ _ (fun _ => rfl) (fun ρ w hw => by go_simp; first | done | with_reducible rfl) (fun w hw => CC1.out.of hG (bto hb hw)) ?_
        simp only [Act.put, List.setIfInBounds_toArray, List.set_cons_zero, List.set_cons_succ, Nat.reduceAdd]
        refine kept_val _ (fun _ => rfl) (fun ρ w hw => by go_simp; first | done | with_reducible rfl) ?_
        simp only [Act.put, List.setIfInBounds_toArray, List.set_cons_zero, List.set_cons_succ, Nat.reduceAdd]
        refine kept_val _ (fun _ => rfl) (fun ρ w hw => by have q0 := (x14.below hw).c0; have q1 := (x14.below hw).c1; go_simp; first | done | with_reducible rfl) ?_
        simp only [Act.put, List.setIfInBounds_toArray, List.set_cons_zero, List.set_cons_succ, Nat.reduceAdd]
        refine kept_val _ (fun _ => rfl) (fun ρ w hw => by have q0 := (x15.below hw).c0; have q1 := (x15.below hw).c1; go_simp; first | done | with_reducible rfl) ?_
        simp only [Act.put, List.setIfInBounds_toArray, List.set_cons_zero, List.set_cons_succ, Nat.reduceAdd]
        refine kept_call _ _ _ (fun _ => rfl) (fun ρ w hw => by go_simp; first | done | with_reducible rfl) (fun w hw => CC2.out.of hG (bto hb hw)) ?_
        simp only [Act.put, List.setIfInBounds_toArray, List.set_cons_zero, List.set_cons_succ, Nat.reduceAdd]
        refine kept_val _ (fun _ => rfl) (fun ρ w hw => by go_simp; first | done | with_reducible rfl) ?_
        simp only [Act.put, List.setIfInBounds_toArray, List.set_cons_zero, List.set_cons_succ, Nat.reduceAdd]
        refine kept_val _ (fun _ => rfl) (fun ρ w hw => by go_simp; first | done | with_reducible rfl) ?_
        simp only [Act.put, List.setIfInBounds_toArray, List.set_cons_zero, List.set_cons_succ, Nat.reduceAdd]
        refine kept_val _ (fun _ => rfl) (fun ρ w hw => by go_simp; first | done | with_reducible rfl) ?_
        simp only [Act.put, List.setIfInBounds_toArray, List.set_cons_zero, List.set_cons_succ, Nat.reduceAdd]
        refine kept_end (fun ρ w13 hF => ?_)
        replace x4 := x4.below hF.below
        replace x14 := x14.below hF.below
        replace x15 := x15.below hF.below
        replace hb := bto hb hF.below
        clear hF
        clear x14
        clear x15
        clear ha ha' hbb hbb'
        clear x4
        go_wp2_with fail
        ((with_reducible refine (CW.out.of hG hb).mono ?_); rintro e w14 ⟨rfl, hb14⟩)
        replace hb := bto hb hb14
        clear hb14
        go_wp2
        go_ret
        exact ⟨rfl, hb⟩
      · have hbb' : decide (cb < 0) = false := decide_eq_false hbb
        have CR := Lib.hid (HR2.out (.inr ⟨m1, by rw [ha', hbb']; rfl⟩))
        clear HR1 HR2
        go_wp2_with fail
        refine wp_region_kept (by kernel_rfl) (by kernel_rfl) ?_
        refine kept_val _ (fun _ => rfl) (fun ρ w hw => by go_simp; first | done | with_reducible rfl) ?_
        simp only [Act.put, List.setIfInBounds_toArray, List.set_cons_zero, List.set_cons_succ, Nat.reduceAdd]
        refine kept_val _ (fun _ => rfl) (fun ρ w hw => by go_simp; first | done | with_reducible rfl) ?_
        simp only [Act.put, List.setIfInBounds_toArray, List.set_cons_zero, List.set_cons_succ, Nat.reduceAdd]
        refine kept_val _ (fun _ => rfl) (fun ρ w hw => by go_simp; first | done | with_reducible rfl) ?_
        simp only [Act.put, List.setIfInBounds_toArray, List.set_cons_zero, List.set_cons_succ, Nat.reduceAdd]
        refine kept_val _ (fun _ => rfl) (fun ρ w hw => by have q0 := (x4.below hw).c0; have q1 := (x4.below hw).c1; go_simp; first | done | with_reducible rfl) ?_
        simp only [Act.put, List.setIfInBounds_toArray, List.set_cons_zero, List.set_cons_succ, Nat.reduceAdd]
        refine kept_val _ (fun _ => rfl) (fun ρ w hw => by have q0 := (x15.below hw).c0; have q1 := (x15.below hw).c1; go_simp; first | done | with_reducible rfl) ?_
        simp only [Act.put, List.setIfInBounds_toArray, List.set_cons_zero, List.set_cons_succ, Nat.reduceAdd]
        refine kept_call _ _ _ (fun _ => rfl) (fun ρ w hw => by go_simp; first | done | with_reducible rfl) (fun w hw => CC1.out.of hG (bto hb hw)) ?_
        simp only [Act.put, List.setIfInBounds_toArray, List.set_cons_zero, List.set_cons_succ, Nat.reduceAdd]
        refine kept_val _ (fun _ => rfl) (fun ρ w hw => by go_simp; first | done | with_reducible rfl) ?_
        simp only [Act.put, List.setIfInBounds_toArray, List.set_cons_zero, List.set_cons_succ, Nat.reduceAdd]
        refine kept_val _ (fun _ => rfl) (fun ρ w hw => by have q0 := (x14.below hw).c0; have q1 := (x14.below hw).c1; go_simp; first | done | with_reducible rfl) ?_
        simp only [Act.put, List.setIfInBounds_toArray, List.set_cons_zero, List.set_cons_succ, Nat.reduceAdd]
        refine kept_val _ (fun _ => rfl) (fun ρ w hw => by have q0 := (x15.below hw).c0; have q1 := (x15.below hw).c1; go_simp; first | done | with_reducible rfl) ?_
        simp only [Act.put, List.setIfInBounds_toArray, List.set_cons_zero, List.set_cons_succ, Nat.reduceAdd]
        refine kept_call _ _ _ (fun _ => rfl) (fun ρ w hw => by go_simp; first | done | with_reducible rfl) (fun w hw => CC2.out.of hG (bto hb hw)) ?_
        simp only [Act.put, List.setIfInBounds_toArray, List.set_cons_zero, List.set_cons_succ, Nat.reduceAdd]
        refine kept_val _ (fun _ => rfl) (fun ρ w hw => by go_simp; first | done | with_reducible rfl) ?_
        simp only [Act.put, List.setIfInBounds_toArray, List.set_cons_zero, List.set_cons_succ, Nat.reduceAdd]
        refine kept_val _ (fun _ => rfl) (fun ρ w hw => by go_simp; first | done | with_reducible rfl) ?_
        simp only [Act.put, List.setIfInBounds_toArray, List.set_cons_zero, List.set_cons_succ, Nat.reduceAdd]
        refine kept_val _ (fun _ => rfl) (fun ρ w hw => by go_simp; first | done | with_reducible rfl) ?_
        simp only [Act.put, List.setIfInBounds_toArray, List.set_cons_zero, List.set_cons_succ, Nat.reduceAdd]
        refine kept_end (fun ρ w13 hF => ?_)
        replace x4 := x4.below hF.below
        replace x14 := x14.below hF.below
        replace x15 := x15.below hF.below
        replace hb := bto hb hF.below
        clear hF
        clear x14
        clear x15
        clear ha ha' hbb hbb'
        go_wp2_with fail
        refine wp_region_kept (by kernel_rfl) (by kernel_rfl) ?_
        refine kept_val _ (fun _ => rfl) (fun ρ w hw => by have q0 := (x4.below hw).c0; have q1 := (x4.below hw).c1; go_simp; first | done | with_reducible rfl) ?_
        simp only [Act.put, List.setIfInBounds_toArray, List.set_cons_zero, List.set_cons_succ, Nat.reduceAdd]
        refine kept_val _ (fun _ => rfl) (fun ρ w hw => by go_simp; first | done | with_reducible rfl) ?_
        simp only [Act.put, List.setIfInBounds_toArray, List.set_cons_zero, List.set_cons_succ, Nat.reduceAdd]
        refine kept_call _ _ _ (fun _ => rfl) (fun ρ w hw => by go_simp; first | done | with_reducible rfl) (fun w hw => O2.out.of hG (bto hb hw)) ?_
        simp only [Act.put, List.setIfInBounds_toArray, List.set_cons_zero, List.set_cons_succ, Nat.reduceAdd]
        refine kept_call _ _ _ (fun _ => rfl) (fun ρ w hw => by go_simp; first | done | with_reducible rfl) (fun w hw => A2c.out.of hG (bto hb hw)) ?_
        simp only [Act.put, List.setIfInBounds_toArray, List.set_cons_zero, List.set_cons_succ, Nat.reduceAdd]
        refine kept_val _ (fun _ => rfl) (fun ρ w hw => by go_simp; first | done | with_reducible rfl) ?_
        simp only [Act.put, List.setIfInBounds_toArray, List.set_cons_zero, List.set_cons_succ, Nat.reduceAdd]
        refine kept_call _ _ _ (fun _ => rfl) (fun ρ w hw => by go_simp; first | done | with_reducible rfl) (fun w hw => CR.out.of hG (bto hb hw)) ?_
        simp only [Act.put, List.setIfInBounds_toArray, List.set_cons_zero, List.set_cons_succ, Nat.reduceAdd]
        refine kept_val _ (fun _ => rfl) (fun ρ w hw => by go_simp; first | done | with_reducible rfl) ?_
        simp only [Act.put, List.setIfInBounds_toArray, List.set_cons_zero, List.set_cons_succ, Nat.reduceAdd]
        refine kept_val _ (fun _ => rfl) (fun ρ w hw => by go_simp; first | done | with_reducible rfl) ?_
        simp only [Act.put, List.setIfInBounds_toArray, List.set_cons_zero, List.set_cons_succ, Nat.reduceAdd]
        refine kept_val _ (fun _ => rfl) (fun ρ w hw => by go_simp; first | done | with_reducible rfl) ?_
        simp only [Act.put, List.setIfInBounds_toArray, List.set_cons_zero, List.set_cons_succ, Nat.reduceAdd]
        refine kept_val _ (fun _ => rfl) (fun ρ w hw => by go_simp; first | done | with_reducible rfl) ?_
        simp only [Act.put, List.setIfInBounds_toArray, List.set_cons_zero, List.set_cons_succ, Nat.reduceAdd]
        refine kept_val _ (fun _ => rfl) (fun ρ w hw => by go_simp; first | done | with_reducible rfl) ?_
        simp only [Act.put, List.setIfInBounds_toArray, List.set_cons_zero, List.set_cons_succ, Nat.reduceAdd]
        refine kept_end (fun ρ w14 hF => ?_)
        replace x4 := x4.below hF.below
        replace hb := bto hb hF.below
        clear hF
        go_wp2_with fail
        ((with_reducible refine (S2c.out.of hG hb).mono ?_); rintro e w15 ⟨rfl, hb15⟩)
        replace x4 := x4.below hb15
        replace hb := bto hb hb15
        clear hb15
        go_wp2_with fail
        ((with_reducible refine (CW.out.of hG hb).mono ?_); rintro e w16 ⟨rfl, hb16⟩)
        replace x4 := x4.below hb16
        replace hb := bto hb hb16
        clear hb16
        go_wp2
        go_ret
        exact ⟨rfl, hb⟩
  · have k1 := HLe.out (by decide)
    have k2 : decide (0 < cz) = false := decide_eq_false (by omega)
    have k2' : ¬ 0 < cz := by omega
    have k3 := HGe.out (by decide)
    have k4 : decide (cz < 0) = false := decide_eq_false (by omega)
    have k4' : ¬ cz < 0 := by omega
    have qx4_0 := x4.c0
    have qx4_1 := x4.c1
    have qx5_0 := x5.c0
    have qx5_1 := x5.c1
    go_wp2_with fail
    ((with_reducible refine (C3.out.of hG hb).mono ?_); rintro e w7 ⟨rfl, hb7⟩)
    clear qx4_0 qx4_1 qx5_0 qx5_1
    replace x4 := x4.below hb7
    replace x5 := x5.below hb7
    replace hb := bto hb hb7
    clear hb7
    go_wp2_with fail
    ((with_reducible refine (C4.out.of hG hb).mono ?_); rintro e w8 ⟨rfl, hb8⟩)
    replace x4 := x4.below hb8
    replace x5 := x5.below hb8
    replace hb := bto hb hb8
    clear hb8
    have qx4_0 := x4.c0
    have qx4_1 := x4.c1
    have qx5_0 := x5.c0
    have qx5_1 := x5.c1
    go_wp2_with fail
    ((with_reducible refine (C3.out.of hG hb).mono ?_); rintro e w9 ⟨rfl, hb9⟩)
    clear qx4_0 qx4_1 qx5_0 qx5_1
    replace x4 := x4.below hb9
    replace x5 := x5.below hb9
    replace hb := bto hb hb9
    clear hb9
    go_wp2_with fail
    ((with_reducible refine (C4.out.of hG hb).mono ?_); rintro e w10 ⟨rfl, hb10⟩)
    replace x4 := x4.below hb10
    replace x5 := x5.below hb10
    replace hb := bto hb hb10
    clear hb10
    clear x5
    by_cases m5 : m < 5
    rotate_left
    · have m5' : decide (m < 5) = false := decide_eq_false m5
      have CR := Lib.hid (HR1.out (by omega))
      clear HR1 HR2
      go_wp2_with fail
      refine wp_region_kept (by kernel_rfl) (by kernel_rfl) ?_
      refine kept_val _ (fun _ => rfl) (fun ρ w hw => by have q0 := (x4.below hw).c0; have q1 := (x4.below hw).c1; go_simp; first | done | with_reducible rfl) ?_
      simp only [Act.put, List.setIfInBounds_toArray, List.set_cons_zero, List.set_cons_succ, Nat.reduceAdd]
      refine kept_val _ (fun _ => rfl) (fun ρ w hw => by go_simp; first | done | with_reducible rfl) ?_
      simp only [Act.put, List.setIfInBounds_toArray, List.set_cons_zero, List.set_cons_succ, Nat.reduceAdd]
      refine kept_call _ _ _ (fun _ => rfl) (fun ρ w hw => by go_simp; first | done | with_reducible rfl) (fun w hw => O1.out.of hG (bto hb hw)) ?_
      simp only [Act.put, List.setIfInBounds_toArray, List.set_cons_zero, List.set_cons_succ, Nat.reduceAdd]
      refine kept_call _ _ _ (fun _ => rfl) (fun ρ w hw => by go_simp; first | done | with_reducible rfl) (fun w hw => A1c.out.of hG (bto hb hw)) ?_
      simp only [Act.put, List.setIfInBounds_toArray, List.set_cons_zero, List.set_cons_succ, Nat.reduceAdd]
      refine kept_val _ (fun _ => rfl) (fun ρ w hw => by go_simp; first | done | with_reducible rfl) ?_
      simp only [Act.put, List.setIfInBounds_toArray, List.set_cons_zero, List.set_cons_succ, Nat.reduceAdd]
      refine kept_call _ _ _ (fun _ => rfl) (fun ρ w hw => by go_simp; first | done | with_reducible rfl) (fun w hw => CR.out.of hG (bto hb hw)) ?_
      simp only [Act.put, List.setIfInBounds_toArray, List.set_cons_zero, List.set_cons_succ, Nat.reduceAdd]
      refine kept_val _ (fun _ => rfl) (fun ρ w hw => by go_simp; first | done | with_reducible rfl) ?_
      simp only [Act.put, List.setIfInBounds_toArray, List.set_cons_zero, List.set_cons_succ, Nat.reduceAdd]
      refine kept_val _ (fun _ => rfl) (fun ρ w hw => by go_simp; first | done | with_reducible rfl) ?_
      simp only [Act.put, List.setIfInBounds_toArray, List.set_cons_zero, List.set_cons_succ, Nat.reduceAdd]
      refine kept_val _ (fun _ => rfl) (fun ρ w hw => by go_simp; first | done | with_reducible rfl) ?_
      simp only [Act.put, List.setIfInBounds_toArray, List.set_cons_zero, List.set_cons_succ, Nat.reduceAdd]
      refine kept_val _ (fun _ => rfl) (fun ρ w hw => by go_simp; first | done | with_reducible rfl) ?_
      simp only [Act.put, List.setIfInBounds_toArray, List.set_cons_zero, List.set_cons_succ, Nat.reduceAdd]
      refine kept_val _ (fun _ => rfl) (fun ρ w hw => by go_simp; first | done | with_reducible rfl) ?_
      simp only [Act.put, List.setIfInBounds_toArray, List.set_cons_zero, List.set_cons_succ, Nat.reduceAdd]
      refine kept_end (fun ρ w11 hF => ?_)
      replace x4 := x4.below hF.below
      replace hb := bto hb hF.below
      clear hF
      go_wp2_with fail
      ((with_reducible refine (S1c.out.of hG hb).mono ?_); rintro e w12 ⟨rfl, hb12⟩)
      replace x4 := x4.below hb12
      replace hb := bto hb hb12
      clear hb12
      go_wp2_with fail
      ((with_reducible refine (CW.out.of hG hb).mono ?_); rintro e w13 ⟨rfl, hb13⟩)
      replace x4 := x4.below hb13
      replace hb := bto hb hb13
      clear hb13
      go_wp2
      go_ret
      exact ⟨rfl, hb⟩
    have m5' : decide (m < 5) = true := decide_eq_true m5
    go_wp2_with fail
    ((with_reducible refine (C5.out.of hG hb).mono ?_); rintro e w11 ⟨rfl, hb11⟩)
    replace x4 := x4.below hb11
    replace hb := bto hb hb11
    clear hb11
    go_wp2_with fail
    refine wp_region_kept (by kernel_rfl) (by kernel_rfl) ?_
    refine kept_val _ (fun _ => rfl) (fun ρ w hw => by have q0 := (x4.below hw).c0; have q1 := (x4.below hw).c1; go_simp; first | done | with_reducible rfl) ?_
    simp only [Act.put, List.setIfInBounds_toArray, List.set_cons_zero, List.set_cons_succ, Nat.reduceAdd]
    refine kept_val _ (fun _ => rfl) (fun ρ w hw => by go_simp; first | done | with_reducible rfl) ?_
    simp only [Act.put, List.setIfInBounds_toArray, List.set_cons_zero, List.set_cons_succ, Nat.reduceAdd]
    refine kept_call _ _ _ (fun _ => rfl) (fun ρ w hw => by go_simp; first | done | with_reducible rfl) (fun w hw => O2.out.of hG (bto hb hw)) ?_
    simp only [Act.put, List.setIfInBounds_toArray, List.set_cons_zero, List.set_cons_succ, Nat.reduceAdd]
    refine kept_call _ _ _ (fun _ => rfl) (fun ρ w hw => by go_simp; first | done | with_reducible rfl) (fun w hw => A2c.out.of hG (bto hb hw)) ?_
    simp only [Act.put, List.setIfInBounds_toArray, List.set_cons_zero, List.set_cons_succ, Nat.reduceAdd]
    refine kept_box (fun b => .pointer (some ⟨b, 0, none⟩)) _ rfl (fun _ => rfl) (fun ρ w hw => by go_simp; first | done | with_reducible rfl) ?_
    simp only [Act.put, List.setIfInBounds_toArray, List.set_cons_zero, List.set_cons_succ, Nat.reduceAdd]
    refine kept_put2 4 _ 14 _ _ _ _ _ rfl rfl rfl (by decide) (fun _ => rfl) (fun ρ w hw q0 q1 q2 q3 => by go_simp; first | done | with_reducible rfl) ?_
    simp only [Act.put, Nat.reduceAdd]
    refine kept_end (fun ρ w12 hF => ?_)
    replace x4 := x4.below hF.below
    replace hb := bto hb hF.below
    have x14 := FBox.ofB (hF.box 4 _ _ rfl).2
    generalize ρ 4 = b14 at *
    clear hF
    go_wp2_with fail
    ((with_reducible refine (R0.out.of hG hb).mono ?_); rintro e w13 ⟨rfl, hb13⟩)
    replace x4 := x4.below hb13
    replace x14 := x14.below hb13
    replace hb := bto hb hb13
    clear hb13
    replace x4 := x4.below (below_alloc w13 (.cells #[.string ⟨Z0.toArray⟩, .string ⟨Z1.toArray⟩] 32))
    replace x14 := x14.below (below_alloc w13 (.cells #[.string ⟨Z0.toArray⟩, .string ⟨Z1.toArray⟩] 32))
    have x15 := FBox.new w13 (.string ⟨Z0.toArray⟩) (.string ⟨Z1.toArray⟩) 32
    replace hb := bto hb (below_alloc w13 (.cells #[.string ⟨Z0.toArray⟩, .string ⟨Z1.toArray⟩] 32))
    by_cases mm : m = 1
    · have e1 := intbeq mm
      have e2 := bneq e1
      have CR := Lib.hid (HR2.out (.inl mm))
      clear mm HR1 HR2
      go_wp2_with fail
      refine wp_region_kept (by kernel_rfl) (by kernel_rfl) ?_
      refine kept_val _ (fun _ => rfl) (fun ρ w hw => by go_simp; first | done | with_reducible rfl) ?_
      simp only [Act.put, List.setIfInBounds_toArray, List.set_cons_zero, List.set_cons_succ, Nat.reduceAdd]
      refine kept_val _ (fun _ => rfl) (fun ρ w hw => by go_simp; first | done | with_reducible rfl) ?_
      simp only [Act.put, List.setIfInBounds_toArray, List.set_cons_zero, List.set_cons_succ, Nat.reduceAdd]
      refine kept_val _ (fun _ => rfl) (fun ρ w hw => by go_simp; first | done | with_reducible rfl) ?_
      simp only [Act.put, List.setIfInBounds_toArray, List.set_cons_zero, List.set_cons_succ, Nat.reduceAdd]
      refine kept_off (fun _ => rfl) ?_
      simp only [Act.put, List.setIfInBounds_toArray, List.set_cons_zero, List.set_cons_succ, Nat.reduceAdd]
      refine kept_off (fun _ => rfl) ?_
      simp only [Act.put, List.setIfInBounds_toArray, List.set_cons_zero, List.set_cons_succ, Nat.reduceAdd]
      refine kept_off (fun _ => rfl) ?_
      simp only [Act.put, List.setIfInBounds_toArray, List.set_cons_zero, List.set_cons_succ, Nat.reduceAdd]
      refine kept_off (fun _ => rfl) ?_
      simp only [Act.put, List.setIfInBounds_toArray, List.set_cons_zero, List.set_cons_succ, Nat.reduceAdd]
      refine kept_off (fun _ => rfl) ?_
      simp only [Act.put, List.setIfInBounds_toArray, List.set_cons_zero, List.set_cons_succ, Nat.reduceAdd]
      refine kept_off (fun _ => rfl) ?_
      simp only [Act.put, List.setIfInBounds_toArray, List.set_cons_zero, List.set_cons_succ, Nat.reduceAdd]
      refine kept_off (fun _ => rfl) ?_
      simp only [Act.put, List.setIfInBounds_toArray, List.set_cons_zero, List.set_cons_succ, Nat.reduceAdd]
      refine kept_off (fun _ => rfl) ?_
      simp only [Act.put, List.setIfInBounds_toArray, List.set_cons_zero, List.set_cons_succ, Nat.reduceAdd]
      refine kept_off (fun _ => rfl) ?_
      simp only [Act.put, List.setIfInBounds_toArray, List.set_cons_zero, List.set_cons_succ, Nat.reduceAdd]
      refine kept_val _ (fun _ => rfl) (fun ρ w hw => by go_simp; first | done | with_reducible rfl) ?_
      simp only [Act.put, List.setIfInBounds_toArray, List.set_cons_zero, List.set_cons_succ, Nat.reduceAdd]
      refine kept_end (fun ρ w14 hF => ?_)
      replace x4 := x4.below hF.below
      replace x14 := x14.below hF.below
      replace x15 := x15.below hF.below
      replace hb := bto hb hF.below
      clear hF
      clear x14
      clear x15
      go_wp2_with fail
      refine wp_region_kept (by kernel_rfl) (by kernel_rfl) ?_
      refine kept_val _ (fun _ => rfl) (fun ρ w hw => by have q0 := (x4.below hw).c0; have q1 := (x4.below hw).c1; go_simp; first | done | with_reducible rfl) ?_
      simp only [Act.put, List.setIfInBounds_toArray, List.set_cons_zero, List.set_cons_succ, Nat.reduceAdd]
      refine kept_val _ (fun _ => rfl) (fun ρ w hw => by go_simp; first | done | with_reducible rfl) ?_
      simp only [Act.put, List.setIfInBounds_toArray, List.set_cons_zero, List.set_cons_succ, Nat.reduceAdd]
      refine kept_call _ _ _ (fun _ => rfl) (fun ρ w hw => by go_simp; first | done | with_reducible rfl) (fun w hw => O2.out.of hG (bto hb hw)) ?_
      simp only [Act.put, List.setIfInBounds_toArray, List.set_cons_zero, List.set_cons_succ, Nat.reduceAdd]
      refine kept_call _ _ _ (fun _ => rfl) (fun ρ w hw => by go_simp; first | done | with_reducible rfl) (fun w hw => A2c.out.of hG (bto hb hw)) ?_
      simp only [Act.put, List.setIfInBounds_toArray, List.set_cons_zero, List.set_cons_succ, Nat.reduceAdd]
      refine kept_val _ (fun _ => rfl) (fun ρ w hw => by go_simp; first | done | with_reducible rfl) ?_
      simp only [Act.put, List.setIfInBounds_toArray, List.set_cons_zero, List.set_cons_succ, Nat.reduceAdd]
      refine kept_call _ _ _ (fun _ => rfl) (fun ρ w hw => by go_simp; first | done | with_reducible rfl) (fun w hw => CR.out.of hG (bto hb hw)) ?_
      simp only [Act.put, List.setIfInBounds_toArray, List.set_cons_zero, List.set_cons_succ, Nat.reduceAdd]
      refine kept_val _ (fun _ => rfl) (fun ρ w hw => by go_simp; first | done | with_reducible rfl) ?_
      simp only [Act.put, List.setIfInBounds_toArray, List.set_cons_zero, List.set_cons_succ, Nat.reduceAdd]
      refine kept_val _ (fun _ => rfl) (fun ρ w hw => by go_simp; first | done | with_reducible rfl) ?_
      simp only [Act.put, List.setIfInBounds_toArray, List.set_cons_zero, List.set_cons_succ, Nat.reduceAdd]
      refine kept_val _ (fun _ => rfl) (fun ρ w hw => by go_simp; first | done | with_reducible rfl) ?_
      simp only [Act.put, List.setIfInBounds_toArray, List.set_cons_zero, List.set_cons_succ, Nat.reduceAdd]
      refine kept_val _ (fun _ => rfl) (fun ρ w hw => by go_simp; first | done | with_reducible rfl) ?_
      simp only [Act.put, List.setIfInBounds_toArray, List.set_cons_zero, List.set_cons_succ, Nat.reduceAdd]
      refine kept_val _ (fun _ => rfl) (fun ρ w hw => by go_simp; first | done | with_reducible rfl) ?_
      simp only [Act.put, List.setIfInBounds_toArray, List.set_cons_zero, List.set_cons_succ, Nat.reduceAdd]
      refine kept_end (fun ρ w15 hF => ?_)
      replace x4 := x4.below hF.below
      replace hb := bto hb hF.below
      clear hF
      go_wp2_with fail
      ((with_reducible refine (S2c.out.of hG hb).mono ?_); rintro e w16 ⟨rfl, hb16⟩)
      replace x4 := x4.below hb16
      replace hb := bto hb hb16
      clear hb16
      go_wp2_with fail
      ((with_reducible refine (CW.out.of hG hb).mono ?_); rintro e w17 ⟨rfl, hb17⟩)
      replace x4 := x4.below hb17
      replace hb := bto hb hb17
      clear hb17
      go_wp2
      go_ret
      exact ⟨rfl, hb⟩
    have e1 := intbne mm
    have e2 := bneq' e1
    clear mm
    by_cases ha : ca < 0
    · have ha' : decide (ca < 0) = true := decide_eq_true ha
      by_cases hbb : cb < 0
      · have hbb' : decide (cb < 0) = true := decide_eq_true hbb
        have CR := Lib.hid (HR2.out (.inr ⟨m1, by rw [ha', hbb']; rfl⟩))
        clear HR1 HR2
        go_wp2_with fail
        refine wp_region_kept (by kernel_rfl) (by kernel_rfl) ?_
        refine kept_val _ (fun _ => rfl) (fun ρ w hw => by go_simp; first | done | with_reducible rfl) ?_
        simp only [Act.put, List.setIfInBounds_toArray, List.set_cons_zero, List.set_cons_succ, Nat.reduceAdd]
        refine kept_val _ (fun _ => rfl) (fun ρ w hw => by go_simp; first | done | with_reducible rfl) ?_
        simp only [Act.put, List.setIfInBounds_toArray, List.set_cons_zero, List.set_cons_succ, Nat.reduceAdd]
        refine kept_val _ (fun _ => rfl) (fun ρ w hw => by go_simp; first | done | with_reducible rfl) ?_
        simp only [Act.put, List.setIfInBounds_toArray, List.set_cons_zero, List.set_cons_succ, Nat.reduceAdd]
        refine kept_val _ (fun _ => rfl) (fun ρ w hw => by have q0 := (x4.below hw).c0; have q1 := (x4.below hw).c1; go_simp; first | done | with_reducible rfl) ?_
        simp only [Act.put, List.setIfInBounds_toArray, List.set_cons_zero, List.set_cons_succ, Nat.reduceAdd]
        refine kept_val _ (fun _ => rfl) (fun ρ w hw => by have q0 := (x15.below hw).c0; have q1 := (x15.below hw).c1; go_simp; first | done | with_reducible rfl) ?_
        simp only [Act.put, List.setIfInBounds_toArray, List.set_cons_zero, List.set_cons_succ, Nat.reduceAdd]
        refine kept_call _ _ _ (fun _ => rfl) (fun ρ w hw => by go_simp; first | done | with_reducible rfl) (fun w hw => CC1.out.of hG (bto hb hw)) ?_
        simp only [Act.put, List.setIfInBounds_toArray, List.set_cons_zero, List.set_cons_succ, Nat.reduceAdd]
        refine kept_val _ (fun _ => rfl) (fun ρ w hw => by go_simp; first | done | with_reducible rfl) ?_
        simp only [Act.put, List.setIfInBounds_toArray, List.set_cons_zero, List.set_cons_succ, Nat.reduceAdd]
        refine kept_val _ (fun _ => rfl) (fun ρ w hw => by have q0 := (x14.below hw).c0; have q1 := (x14.below hw).c1; go_simp; first | done | with_reducible rfl) ?_
        simp only [Act.put, List.setIfInBounds_toArray, List.set_cons_zero, List.set_cons_succ, Nat.reduceAdd]
        refine kept_val _ (fun _ => rfl) (fun ρ w hw => by have q0 := (x15.below hw).c0; have q1 := (x15.below hw).c1; go_simp; first | done | with_reducible rfl) ?_
        simp only [Act.put, List.setIfInBounds_toArray, List.set_cons_zero, List.set_cons_succ, Nat.reduceAdd]
        refine kept_call _ _ _ (fun _ => rfl) (fun ρ w hw => by go_simp; first | done | with_reducible rfl) (fun w hw => CC2.out.of hG (bto hb hw)) ?_
        simp only [Act.put, List.setIfInBounds_toArray, List.set_cons_zero, List.set_cons_succ, Nat.reduceAdd]
        refine kept_val _ (fun _ => rfl) (fun ρ w hw => by go_simp; first | done | with_reducible rfl) ?_
        simp only [Act.put, List.setIfInBounds_toArray, List.set_cons_zero, List.set_cons_succ, Nat.reduceAdd]
        refine kept_val _ (fun _ => rfl) (fun ρ w hw => by go_simp; first | done | with_reducible rfl) ?_
        simp only [Act.put, List.setIfInBounds_toArray, List.set_cons_zero, List.set_cons_succ, Nat.reduceAdd]
        refine kept_val _ (fun _ => rfl) (fun ρ w hw => by go_simp; first | done | with_reducible rfl) ?_
        simp only [Act.put, List.setIfInBounds_toArray, List.set_cons_zero, List.set_cons_succ, Nat.reduceAdd]
        refine kept_end (fun ρ w14 hF => ?_)
        replace x4 := x4.below hF.below
        replace x14 := x14.below hF.below
        replace x15 := x15.below hF.below
        replace hb := bto hb hF.below
        clear hF
        clear x14
        clear x15
        clear ha ha' hbb hbb'
        go_wp2_with fail
        refine wp_region_kept (by kernel_rfl) (by kernel_rfl) ?_
        refine kept_val _ (fun _ => rfl) (fun ρ w hw => by have q0 := (x4.below hw).c0; have q1 := (x4.below hw).c1; go_simp; first | done | with_reducible rfl) ?_
        simp only [Act.put, List.setIfInBounds_toArray, List.set_cons_zero, List.set_cons_succ, Nat.reduceAdd]
        refine kept_val _ (fun _ => rfl) (fun ρ w hw => by go_simp; first | done | with_reducible rfl) ?_
        simp only [Act.put, List.setIfInBounds_toArray, List.set_cons_zero, List.set_cons_succ, Nat.reduceAdd]
        refine kept_call _ _ _ (fun _ => rfl) (fun ρ w hw => by go_simp; first | done | with_reducible rfl) (fun w hw => O2.out.of hG (bto hb hw)) ?_
        simp only [Act.put, List.setIfInBounds_toArray, List.set_cons_zero, List.set_cons_succ, Nat.reduceAdd]
        refine kept_call _ _ _ (fun _ => rfl) (fun ρ w hw => by go_simp; first | done | with_reducible rfl) (fun w hw => A2c.out.of hG (bto hb hw)) ?_
        simp only [Act.put, List.setIfInBounds_toArray, List.set_cons_zero, List.set_cons_succ, Nat.reduceAdd]
        refine kept_val _ (fun _ => rfl) (fun ρ w hw => by go_simp; first | done | with_reducible rfl) ?_
        simp only [Act.put, List.setIfInBounds_toArray, List.set_cons_zero, List.set_cons_succ, Nat.reduceAdd]
        refine kept_call _ _ _ (fun _ => rfl) (fun ρ w hw => by go_simp; first | done | with_reducible rfl) (fun w hw => CR.out.of hG (bto hb hw)) ?_
        simp only [Act.put, List.setIfInBounds_toArray, List.set_cons_zero, List.set_cons_succ, Nat.reduceAdd]
        refine kept_val _ (fun _ => rfl) (fun ρ w hw => by go_simp; first | done | with_reducible rfl) ?_
        simp only [Act.put, List.setIfInBounds_toArray, List.set_cons_zero, List.set_cons_succ, Nat.reduceAdd]
        refine kept_val _ (fun _ => rfl) (fun ρ w hw => by go_simp; first | done | with_reducible rfl) ?_
        simp only [Act.put, List.setIfInBounds_toArray, List.set_cons_zero, List.set_cons_succ, Nat.reduceAdd]
        refine kept_val _ (fun _ => rfl) (fun ρ w hw => by go_simp; first | done | with_reducible rfl) ?_
        simp only [Act.put, List.setIfInBounds_toArray, List.set_cons_zero, List.set_cons_succ, Nat.reduceAdd]
        refine kept_val _ (fun _ => rfl) (fun ρ w hw => by go_simp; first | done | with_reducible rfl) ?_
        simp only [Act.put, List.setIfInBounds_toArray, List.set_cons_zero, List.set_cons_succ, Nat.reduceAdd]
        refine kept_val _ (fun _ => rfl) (fun ρ w hw => by go_simp; first | done | with_reducible rfl) ?_
        simp only [Act.put, List.setIfInBounds_toArray, List.set_cons_zero, List.set_cons_succ, Nat.reduceAdd]
        refine kept_end (fun ρ w15 hF => ?_)
        replace x4 := x4.below hF.below
        replace hb := bto hb hF.below
        clear hF
        go_wp2_with fail
        ((with_reducible refine (S2c.out.of hG hb).mono ?_); rintro e w16 ⟨rfl, hb16⟩)
        replace x4 := x4.below hb16
        replace hb := bto hb hb16
        clear hb16
        go_wp2_with fail
        ((with_reducible refine (CW.out.of hG hb).mono ?_); rintro e w17 ⟨rfl, hb17⟩)
        replace x4 := x4.below hb17
        replace hb := bto hb hb17
        clear hb17
        go_wp2
        go_ret
        exact ⟨rfl, hb⟩
      · have hbb' : decide (cb < 0) = false := decide_eq_false hbb
        go_wp2_with fail
        refine wp_region_kept (by kernel_rfl) (by kernel_rfl) ?_
        refine kept_val _ (fun _ => rfl) (fun ρ w hw => by go_simp; first | done | with_reducible rfl) ?_
        simp only [Act.put, List.setIfInBounds_toArray, List.set_cons_zero, List.set_cons_succ, Nat.reduceAdd]
        refine kept_val _ (fun _ => rfl) (fun ρ w hw => by go_simp; first | done | with_reducible rfl) ?_
        simp only [Act.put, List.setIfInBounds_toArray, List.set_cons_zero, List.set_cons_succ, Nat.reduceAdd]
        refine kept_val _ (fun _ => rfl) (fun ρ w hw => by go_simp; first | done | with_reducible rfl) ?_
        simp only [Act.put, List.setIfInBounds_toArray, List.set_cons_zero, List.set_cons_succ, Nat.reduceAdd]
        refine kept_val _ (fun _ => rfl) (fun ρ w hw => by have q0 := (x4.below hw).c0; have q1 := (x4.below hw).c1; go_simp; first | done | with_reducible rfl) ?_
        simp only [Act.put, List.setIfInBounds_toArray, List.set_cons_zero, List.set_cons_succ, Nat.reduceAdd]
        refine kept_val _ (fun _ => rfl) (fun ρ w hw => by have q0 := (x15.below hw).c0; have q1 := (x15.below hw).c1; go_simp; first | done | with_reducible rfl) ?_
        simp only [Act.put, List.setIfInBounds_toArray, List.set_cons_zero, List.set_cons_succ, Nat.reduceAdd]
        refine kept_call _ _ _ (fun _ => rfl) (fun ρ w hw => by go_simp; first | done | with_reducible rfl) (fun w hw => CC1.out.of hG (bto hb hw)) ?_
        simp only [Act.put, List.setIfInBounds_toArray, List.set_cons_zero, List.set_cons_succ, Nat.reduceAdd]
        refine kept_val _ (fun _ => rfl) (fun ρ w hw => by go_simp; first | done | with_reducible rfl) ?_
        simp only [Act.put, List.setIfInBounds_toArray, List.set_cons_zero, List.set_cons_succ, Nat.reduceAdd]
        refine kept_val _ (fun _ => rfl) (fun ρ w hw => by have q0 := (x14.below hw).c0; have q1 := (x14.below hw).c1; go_simp; first | done | with_reducible rfl) ?_
        simp only [Act.put, List.setIfInBounds_toArray, List.set_cons_zero, List.set_cons_succ, Nat.reduceAdd]
        refine kept_val _ (fun _ => rfl) (fun ρ w hw => by have q0 := (x15.below hw).c0; have q1 := (x15.below hw).c1; go_simp; first | done | with_reducible rfl) ?_
        simp only [Act.put, List.setIfInBounds_toArray, List.set_cons_zero, List.set_cons_succ, Nat.reduceAdd]
        refine kept_call _ _ _ (fun _ => rfl) (fun ρ w hw => by go_simp; first | done | with_reducible rfl) (fun w hw => CC2.out.of hG (bto hb hw)) ?_
        simp only [Act.put, List.setIfInBounds_toArray, List.set_cons_zero, List.set_cons_succ, Nat.reduceAdd]
        refine kept_val _ (fun _ => rfl) (fun ρ w hw => by go_simp; first | done | with_reducible rfl) ?_
        simp only [Act.put, List.setIfInBounds_toArray, List.set_cons_zero, List.set_cons_succ, Nat.reduceAdd]
        refine kept_val _ (fun _ => rfl) (fun ρ w hw => by go_simp; first | done | with_reducible rfl) ?_
        simp only [Act.put, List.setIfInBounds_toArray, List.set_cons_zero, List.set_cons_succ, Nat.reduceAdd]
        refine kept_val _ (fun _ => rfl) (fun ρ w hw => by go_simp; first | done | with_reducible rfl) ?_
        simp only [Act.put, List.setIfInBounds_toArray, List.set_cons_zero, List.set_cons_succ, Nat.reduceAdd]
        refine kept_end (fun ρ w14 hF => ?_)
        replace x4 := x4.below hF.below
        replace x14 := x14.below hF.below
        replace x15 := x15.below hF.below
        replace hb := bto hb hF.below
        clear hF
        clear x14
        clear x15
        clear ha ha' hbb hbb'
        clear x4
        go_wp2_with fail
        ((with_reducible refine (CW.out.of hG hb).mono ?_); rintro e w15 ⟨rfl, hb15⟩)
        replace hb := bto hb hb15
        clear hb15
        go_wp2
        go_ret
        exact ⟨rfl, hb⟩
    · have ha' : decide (ca < 0) = false := decide_eq_false ha
      by_cases hbb : cb < 0
      · have hbb' : decide (cb < 0) = true := decide_eq_true hbb
        go_wp2_with fail
        refine wp_region_kept (by kernel_rfl) (by kernel_rfl) ?_
        refine kept_val _ (fun _ => rfl) (fun ρ w hw => by go_simp; first | done | with_reducible rfl) ?_
        simp only [Act.put, List.setIfInBounds_toArray, List.set_cons_zero, List.set_cons_succ, Nat.reduceAdd]
        refine kept_val _ (fun _ => rfl) (fun ρ w hw => by go_simp; first | done | with_reducible rfl) ?_
        simp only [Act.put, List.setIfInBounds_toArray, List.set_cons_zero, List.set_cons_succ, Nat.reduceAdd]
        refine kept_val _ (fun _ => rfl) (fun ρ w hw => by go_simp; first | done | with_reducible rfl) ?_
        simp only [Act.put, List.setIfInBounds_toArray, List.set_cons_zero, List.set_cons_succ, Nat.reduceAdd]
        refine kept_val _ (fun _ => rfl) (fun ρ w hw => by have q0 := (x4.below hw).c0; have q1 := (x4.below hw).c1; go_simp; first | done | with_reducible rfl) ?_
        simp only [Act.put, List.setIfInBounds_toArray, List.set_cons_zero, List.set_cons_succ, Nat.reduceAdd]
        refine kept_val _ (fun _ => rfl) (fun ρ w hw => by have q0 := (x15.below hw).c0; have q1 := (x15.below hw).c1; go_simp; first | done | with_reducible rfl) ?_
        simp only [Act.put, List.setIfInBounds_toArray, List.set_cons_zero, List.set_cons_succ, Nat.reduceAdd]
        refine kept_call _ _ _ (fun _ => rfl) (fun ρ w hw => by go_simp; first | done | with_reducible rfl) (fun w hw => CC1.out.of hG (bto hb hw)) ?_
        simp only [Act.put, List.setIfInBounds_toArray, List.set_cons_zero, List.set_cons_succ, Nat.reduceAdd]
        refine kept_val _ (fun _ => rfl) (fun ρ w hw => by go_simp; first | done | with_reducible rfl) ?_
        simp only [Act.put, List.setIfInBounds_toArray, List.set_cons_zero, List.set_cons_succ, Nat.reduceAdd]
        refine kept_val _ (fun _ => rfl) (fun ρ w hw => by have q0 := (x14.below hw).c0; have q1 := (x14.below hw).c1; go_simp; first | done | with_reducible rfl) ?_
        simp only [Act.put, List.setIfInBounds_toArray, List.set_cons_zero, List.set_cons_succ, Nat.reduceAdd]
        refine kept_val _ (fun _ => rfl) (fun ρ w hw => by have q0 := (x15.below hw).c0; have q1 := (x15.below hw).c1; go_simp; first | done | with_reducible rfl) ?_
        simp only [Act.put, List.setIfInBounds_toArray, List.set_cons_zero, List.set_cons_succ, Nat.reduceAdd]
        refine kept_call _ _ _ (fun _ => rfl) (fun ρ w hw => by go_simp; first | done | with_reducible rfl) (fun w hw => CC2.out.of hG (bto hb hw)) ?_
        simp only [Act.put, List.setIfInBounds_toArray, List.set_cons_zero, List.set_cons_succ, Nat.reduceAdd]
        refine kept_val _ (fun _ => rfl) (fun ρ w hw => by go_simp; first | done | with_reducible rfl) ?_
        simp only [Act.put, List.setIfInBounds_toArray, List.set_cons_zero, List.set_cons_succ, Nat.reduceAdd]
        refine kept_val _ (fun _ => rfl) (fun ρ w hw => by go_simp; first | done | with_reducible rfl) ?_
        simp only [Act.put, List.setIfInBounds_toArray, List.set_cons_zero, List.set_cons_succ, Nat.reduceAdd]
        refine kept_val _ (fun _ => rfl) (fun ρ w hw => by go_simp; first | done | with_reducible rfl) ?_
        simp only [Act.put, List.setIfInBounds_toArray, List.set_cons_zero, List.set_cons_succ, Nat.reduceAdd]
        refine kept_end (fun ρ w14 hF => ?_)
        replace x4 := x4.below hF.below
        replace x14 := x14.below hF.below
        replace x15 := x15.below hF.below
        replace hb := bto hb hF.below
        clear hF
        clear x14
        clear x15
        clear ha ha' hbb hbb'
        clear x4
        go_wp2_with fail
        ((with_reducible refine (CW.out.of hG hb).mono ?_); rintro e w15 ⟨rfl, hb15⟩)
        replace hb := bto hb hb15
        clear hb15
        go_wp2
        go_ret
        exact ⟨rfl, hb⟩
      · have hbb' : decide (cb < 0) = false := decide_eq_false hbb
        have CR := Lib.hid (HR2.out (.inr ⟨m1, by rw [ha', hbb']; rfl⟩))
        clear HR1 HR2
        go_wp2_with fail
        refine wp_region_kept (by kernel_rfl) (by kernel_rfl) ?_
        refine kept_val _ (fun _ => rfl) (fun ρ w hw => by go_simp; first | done | with_reducible rfl) ?_
        simp only [Act.put, List.setIfInBounds_toArray, List.set_cons_zero, List.set_cons_succ, Nat.reduceAdd]
        refine kept_val _ (fun _ => rfl) (fun ρ w hw => by go_simp; first | done | with_reducible rfl) ?_
        simp only [Act.put, List.setIfInBounds_toArray, List.set_cons_zero, List.set_cons_succ, Nat.reduceAdd]
        refine kept_val _ (fun _ => rfl) (fun ρ w hw => by go_simp; first | done | with_reducible rfl) ?_
        simp only [Act.put, List.setIfInBounds_toArray, List.set_cons_zero, List.set_cons_succ, Nat.reduceAdd]
        refine kept_val _ (fun _ => rfl) (fun ρ w hw => by have q0 := (x4.below hw).c0; have q1 := (x4.below hw).c1; go_simp; first | done | with_reducible rfl) ?_
        simp only [Act.put, List.setIfInBounds_toArray, List.set_cons_zero, List.set_cons_succ, Nat.reduceAdd]
        refine kept_val _ (fun _ => rfl) (fun ρ w hw => by have q0 := (x15.below hw).c0; have q1 := (x15.below hw).c1; go_simp; first | done | with_reducible rfl) ?_
        simp only [Act.put, List.setIfInBounds_toArray, List.set_cons_zero, List.set_cons_succ, Nat.reduceAdd]
        refine kept_call _ _ _ (fun _ => rfl) (fun ρ w hw => by go_simp; first | done | with_reducible rfl) (fun w hw => CC1.out.of hG (bto hb hw)) ?_
        simp only [Act.put, List.setIfInBounds_toArray, List.set_cons_zero, List.set_cons_succ, Nat.reduceAdd]
        refine kept_val _ (fun _ => rfl) (fun ρ w hw => by go_simp; first | done | with_reducible rfl) ?_
        simp only [Act.put, List.setIfInBounds_toArray, List.set_cons_zero, List.set_cons_succ, Nat.reduceAdd]
        refine kept_val _ (fun _ => rfl) (fun ρ w hw => by have q0 := (x14.below hw).c0; have q1 := (x14.below hw).c1; go_simp; first | done | with_reducible rfl) ?_
        simp only [Act.put, List.setIfInBounds_toArray, List.set_cons_zero, List.set_cons_succ, Nat.reduceAdd]
        refine kept_val _ (fun _ => rfl) (fun ρ w hw => by have q0 := (x15.below hw).c0; have q1 := (x15.below hw).c1; go_simp; first | done | with_reducible rfl) ?_
        simp only [Act.put, List.setIfInBounds_toArray, List.set_cons_zero, List.set_cons_succ, Nat.reduceAdd]
        refine kept_call _ _ _ (fun _ => rfl) (fun ρ w hw => by go_simp; first | done | with_reducible rfl) (fun w hw => CC2.out.of hG (bto hb hw)) ?_
        simp only [Act.put, List.setIfInBounds_toArray, List.set_cons_zero, List.set_cons_succ, Nat.reduceAdd]
        refine kept_val _ (fun _ => rfl) (fun ρ w hw => by go_simp; first | done | with_reducible rfl) ?_
        simp only [Act.put, List.setIfInBounds_toArray, List.set_cons_zero, List.set_cons_succ, Nat.reduceAdd]
        refine kept_val _ (fun _ => rfl) (fun ρ w hw => by go_simp; first | done | with_reducible rfl) ?_
        simp only [Act.put, List.setIfInBounds_toArray, List.set_cons_zero, List.set_cons_succ, Nat.reduceAdd]
        refine kept_val _ (fun _ => rfl) (fun ρ w hw => by go_simp; first | done | with_reducible rfl) ?_
        simp only [Act.put, List.setIfInBounds_toArray, List.set_cons_zero, List.set_cons_succ, Nat.reduceAdd]
        refine kept_end (fun ρ w14 hF => ?_)
        replace x4 := x4.below hF.below
        replace x14 := x14.below hF.below
        replace x15 := x15.below hF.below
        replace hb := bto hb hF.below
        clear hF
        clear x14
        clear x15
        clear ha ha' hbb hbb'
        go_wp2_with fail
        refine wp_region_kept (by kernel_rfl) (by kernel_rfl) ?_
        refine kept_val _ (fun _ => rfl) (fun ρ w hw => by have q0 := (x4.below hw).c0; have q1 := (x4.below hw).c1; go_simp; first | done | with_reducible rfl) ?_
        simp only [Act.put, List.setIfInBounds_toArray, List.set_cons_zero, List.set_cons_succ, Nat.reduceAdd]
        refine kept_val _ (fun _ => rfl) (fun ρ w hw => by go_simp; first | done | with_reducible rfl) ?_
        simp only [Act.put, List.setIfInBounds_toArray, List.set_cons_zero, List.set_cons_succ, Nat.reduceAdd]
        refine kept_call _ _ _ (fun _ => rfl) (fun ρ w hw => by go_simp; first | done | with_reducible rfl) (fun w hw => O2.out.of hG (bto hb hw)) ?_
        simp only [Act.put, List.setIfInBounds_toArray, List.set_cons_zero, List.set_cons_succ, Nat.reduceAdd]
        refine kept_call _ _ _ (fun _ => rfl) (fun ρ w hw => by go_simp; first | done | with_reducible rfl) (fun w hw => A2c.out.of hG (bto hb hw)) ?_
        simp only [Act.put, List.setIfInBounds_toArray, List.set_cons_zero, List.set_cons_succ, Nat.reduceAdd]
        refine kept_val _ (fun _ => rfl) (fun ρ w hw => by go_simp; first | done | with_reducible rfl) ?_
        simp only [Act.put, List.setIfInBounds_toArray, List.set_cons_zero, List.set_cons_succ, Nat.reduceAdd]
        refine kept_call _ _ _ (fun _ => rfl) (fun ρ w hw => by go_simp; first | done | with_reducible rfl) (fun w hw => CR.out.of hG (bto hb hw)) ?_
        simp only [Act.put, List.setIfInBounds_toArray, List.set_cons_zero, List.set_cons_succ, Nat.reduceAdd]
        refine kept_val _ (fun _ => rfl) (fun ρ w hw => by go_simp; first | done | with_reducible rfl) ?_
        simp only [Act.put, List.setIfInBounds_toArray, List.set_cons_zero, List.set_cons_succ, Nat.reduceAdd]
        refine kept_val _ (fun _ => rfl) (fun ρ w hw => by go_simp; first | done | with_reducible rfl) ?_
        simp only [Act.put, List.setIfInBounds_toArray, List.set_cons_zero, List.set_cons_succ, Nat.reduceAdd]
        refine kept_val _ (fun _ => rfl) (fun ρ w hw => by go_simp; first | done | with_reducible rfl) ?_
        simp only [Act.put, List.setIfInBounds_toArray, List.set_cons_zero, List.set_cons_succ, Nat.reduceAdd]
        refine kept_val _ (fun _ => rfl) (fun ρ w hw => by go_simp; first | done | with_reducible rfl) ?_
        simp only [Act.put, List.setIfInBounds_toArray, List.set_cons_zero, List.set_cons_succ, Nat.reduceAdd]
        refine kept_val _ (fun _ => rfl) (fun ρ w hw => by go_simp; first | done | with_reducible rfl) ?_
        simp only [Act.put, List.setIfInBounds_toArray, List.set_cons_zero, List.set_cons_succ, Nat.reduceAdd]
        refine kept_end (fun ρ w15 hF => ?_)
        replace x4 := x4.below hF.below
        replace hb := bto hb hF.below
        clear hF
        go_wp2_with fail
        ((with_reducible refine (S2c.out.of hG hb).mono ?_); rintro e w16 ⟨rfl, hb16⟩)
        replace x4 := x4.below hb16
        replace hb := bto hb hb16
        clear hb16
        go_wp2_with fail
        ((with_reducible refine (CW.out.of hG hb).mono ?_); rintro e w17 ⟨rfl, hb17⟩)
        replace x4 := x4.below hb17
        replace hb := bto hb hb17
        clear hb17
        go_wp2
        go_ret
        exact ⟨rfl, hb⟩
  · have k3 := HGe.out (by decide)
    have k4 : decide (cz < 0) = false := decide_eq_false (by omega)
    have k4' : ¬ cz < 0 := by omega
    have qx4_0 := x4.c0
    have qx4_1 := x4.c1
    have qx5_0 := x5.c0
    have qx5_1 := x5.c1
    go_wp2_with fail
    ((with_reducible refine (C3.out.of hG hb).mono ?_); rintro e w7 ⟨rfl, hb7⟩)
    clear qx4_0 qx4_1 qx5_0 qx5_1
    replace x4 := x4.below hb7
    replace x5 := x5.below hb7
    replace hb := bto hb hb7
    clear hb7
    have qx4_0 := x4.c0
    have qx4_1 := x4.c1
    have qx5_0 := x5.c0
    have qx5_1 := x5.c1
    go_wp2_with fail
    ((with_reducible refine (C3.out.of hG hb).mono ?_); rintro e w8 ⟨rfl, hb8⟩)
    clear qx4_0 qx4_1 qx5_0 qx5_1
    replace x4 := x4.below hb8
    replace x5 := x5.below hb8
    replace hb := bto hb hb8
    clear hb8
    go_wp2_with fail
    ((with_reducible refine (C4.out.of hG hb).mono ?_); rintro e w9 ⟨rfl, hb9⟩)
    replace x4 := x4.below hb9
    replace x5 := x5.below hb9
    replace hb := bto hb hb9
    clear hb9
    clear x5
    by_cases m5 : m < 5
    rotate_left
    · have m5' : decide (m < 5) = false := decide_eq_false m5
      have CR := Lib.hid (HR1.out (by omega))
      clear HR1 HR2
      go_wp2_with fail
      refine wp_region_kept (by kernel_rfl) (by kernel_rfl) ?_
      refine kept_val _ (fun _ => rfl) (fun ρ w hw => by have q0 := (x4.below hw).c0; have q1 := (x4.below hw).c1; go_simp; first | done | with_reducible rfl) ?_
      simp only [Act.put, List.setIfInBounds_toArray, List.set_cons_zero, List.set_cons_succ, Nat.reduceAdd]
      refine kept_val _ (fun _ => rfl) (fun ρ w hw => by go_simp; first | done | with_reducible rfl) ?_
      simp only [Act.put, List.setIfInBounds_toArray, List.set_cons_zero, List.set_cons_succ, Nat.reduceAdd]
      refine kept_call _ _ _ (fun _ => rfl) (fun ρ w hw => by go_simp; first | done | with_reducible rfl) (fun w hw => O1.out.of hG (bto hb hw)) ?_
      simp only [Act.put, List.setIfInBounds_toArray, List.set_cons_zero, List.set_cons_succ, Nat.reduceAdd]
      refine kept_call _ _ _ (fun _ => rfl) (fun ρ w hw => by go_simp; first | done | with_reducible rfl) (fun w hw => A1c.out.of hG (bto hb hw)) ?_
      simp only [Act.put, List.setIfInBounds_toArray, List.set_cons_zero, List.set_cons_succ, Nat.reduceAdd]
      refine kept_val _ (fun _ => rfl) (fun ρ w hw => by go_simp; first | done | with_reducible rfl) ?_
      simp only [Act.put, List.setIfInBounds_toArray, List.set_cons_zero, List.set_cons_succ, Nat.reduceAdd]
      refine kept_call _ _ _ (fun _ => rfl) (fun ρ w hw => by go_simp; first | done | with_reducible rfl) (fun w hw => CR.out.of hG (bto hb hw)) ?_
      simp only [Act.put, List.setIfInBounds_toArray, List.set_cons_zero, List.set_cons_succ, Nat.reduceAdd]
      refine kept_val _ (fun _ => rfl) (fun ρ w hw => by go_simp; first | done | with_reducible rfl) ?_
      simp only [Act.put, List.setIfInBounds_toArray, List.set_cons_zero, List.set_cons_succ, Nat.reduceAdd]
      refine kept_val _ (fun _ => rfl) (fun ρ w hw => by go_simp; first | done | with_reducible rfl) ?_
      simp only [Act.put, List.setIfInBounds_toArray, List.set_cons_zero, List.set_cons_succ, Nat.reduceAdd]
      refine kept_val _ (fun _ => rfl) (fun ρ w hw => by go_simp; first | done | with_reducible rfl) ?_
      simp only [Act.put, List.setIfInBounds_toArray, List.set_cons_zero, List.set_cons_succ, Nat.reduceAdd]
      refine kept_val _ (fun _ => rfl) (fun ρ w hw => by go_simp; first | done | with_reducible rfl) ?_
      simp only [Act.put, List.setIfInBounds_toArray, List.set_cons_zero, List.set_cons_succ, Nat.reduceAdd]
      refine kept_val _ (fun _ => rfl) (fun ρ w hw => by go_simp; first | done | with_reducible rfl) ?_
      simp only [Act.put, List.setIfInBounds_toArray, List.set_cons_zero, List.set_cons_succ, Nat.reduceAdd]
      refine kept_end (fun ρ w10 hF => ?_)
      replace x4 := x4.below hF.below
      replace hb := bto hb hF.below
      clear hF
      go_wp2_with fail
      ((with_reducible refine (S1c.out.of hG hb).mono ?_); rintro e w11 ⟨rfl, hb11⟩)
      replace x4 := x4.below hb11
      replace hb := bto hb hb11
      clear hb11
      go_wp2_with fail
      ((with_reducible refine (CW.out.of hG hb).mono ?_); rintro e w12 ⟨rfl, hb12⟩)
      replace x4 := x4.below hb12
      replace hb := bto hb hb12
      clear hb12
      go_wp2
      go_ret
      exact ⟨rfl, hb⟩
    have m5' : decide (m < 5) = true := decide_eq_true m5
    go_wp2_with fail
    ((with_reducible refine (C5.out.of hG hb).mono ?_); rintro e w10 ⟨rfl, hb10⟩)
    replace x4 := x4.below hb10
    replace hb := bto hb hb10
    clear hb10
    go_wp2_with fail
    refine wp_region_kept (by kernel_rfl) (by kernel_rfl) ?_
    refine kept_val _ (fun _ => rfl) (fun ρ w hw => by have q0 := (x4.below hw).c0; have q1 := (x4.below hw).c1; go_simp; first | done | with_reducible rfl) ?_
    simp only [Act.put, List.setIfInBounds_toArray, List.set_cons_zero, List.set_cons_succ, Nat.reduceAdd]
    refine kept_val _ (fun _ => rfl) (fun ρ w hw => by go_simp; first | done | with_reducible rfl) ?_
    simp only [Act.put, List.setIfInBounds_toArray, List.set_cons_zero, List.set_cons_succ, Nat.reduceAdd]
    refine kept_call _ _ _ (fun _ => rfl) (fun ρ w hw => by go_simp; first | done | with_reducible rfl) (fun w hw => O2.out.of hG (bto hb hw)) ?_
    simp only [Act.put, List.setIfInBounds_toArray, List.set_cons_zero, List.set_cons_succ, Nat.reduceAdd]
    refine kept_call _ _ _ (fun _ => rfl) (fun ρ w hw => by go_simp; first | done | with_reducible rfl) (fun w hw => A2c.out.of hG (bto hb hw)) ?_
    simp only [Act.put, List.setIfInBounds_toArray, List.set_cons_zero, List.set_cons_succ, Nat.reduceAdd]
    refine kept_box (fun b => .pointer (some ⟨b, 0, none⟩)) _ rfl (fun _ => rfl) (fun ρ w hw => by go_simp; first | done | with_reducible rfl) ?_
    simp only [Act.put, List.setIfInBounds_toArray, List.set_cons_zero, List.set_cons_succ, Nat.reduceAdd]
    refine kept_put2 4 _ 14 _ _ _ _ _ rfl rfl rfl (by decide) (fun _ => rfl) (fun ρ w hw q0 q1 q2 q3 => by go_simp; first | done | with_reducible rfl) ?_
    simp only [Act.put, Nat.reduceAdd]
    refine kept_end (fun ρ w11 hF => ?_)
    replace x4 := x4.below hF.below
    replace hb := bto hb hF.below
    have x14 := FBox.ofB (hF.box 4 _ _ rfl).2
    generalize ρ 4 = b14 at *
    clear hF
    go_wp2_with fail
    ((with_reducible refine (R0.out.of hG hb).mono ?_); rintro e w12 ⟨rfl, hb12⟩)
    replace x4 := x4.below hb12
    replace x14 := x14.below hb12
    replace hb := bto hb hb12
    clear hb12
    replace x4 := x4.below (below_alloc w12 (.cells #[.string ⟨Z0.toArray⟩, .string ⟨Z1.toArray⟩] 32))
    replace x14 := x14.below (below_alloc w12 (.cells #[.string ⟨Z0.toArray⟩, .string ⟨Z1.toArray⟩] 32))
    have x15 := FBox.new w12 (.string ⟨Z0.toArray⟩) (.string ⟨Z1.toArray⟩) 32
    replace hb := bto hb (below_alloc w12 (.cells #[.string ⟨Z0.toArray⟩, .string ⟨Z1.toArray⟩] 32))
    by_cases mm : m = 1
    · have e1 := intbeq mm
      have e2 := bneq e1
      have CR := Lib.hid (HR2.out (.inl mm))
      clear mm HR1 HR2
      go_wp2_with fail
      refine wp_region_kept (by kernel_rfl) (by kernel_rfl) ?_
      refine kept_val _ (fun _ => rfl) (fun ρ w hw => by go_simp; first | done | with_reducible rfl) ?_
      simp only [Act.put, List.setIfInBounds_toArray, List.set_cons_zero, List.set_cons_succ, Nat.reduceAdd]
      refine kept_val _ (fun _ => rfl) (fun ρ w hw => by go_simp; first | done | with_reducible rfl) ?_
      simp only [Act.put, List.setIfInBounds_toArray, List.set_cons_zero, List.set_cons_succ, Nat.reduceAdd]
      refine kept_val _ (fun _ => rfl) (fun ρ w hw => by go_simp; first | done | with_reducible rfl) ?_
      simp only [Act.put, List.setIfInBounds_toArray, List.set_cons_zero, List.set_cons_succ, Nat.reduceAdd]
      refine kept_off (fun _ => rfl) ?_
      simp only [Act.put, List.setIfInBounds_toArray, List.set_cons_zero, List.set_cons_succ, Nat.reduceAdd]
      refine kept_off (fun _ => rfl) ?_
      simp only [Act.put, List.setIfInBounds_toArray, List.set_cons_zero, List.set_cons_succ, Nat.reduceAdd]
      refine kept_off (fun _ => rfl) ?_
      simp only [Act.put, List.setIfInBounds_toArray, List.set_cons_zero, List.set_cons_succ, Nat.reduceAdd]
      refine kept_off (fun _ => rfl) ?_
      simp only [Act.put, List.setIfInBounds_toArray, List.set_cons_zero, List.set_cons_succ, Nat.reduceAdd]
      refine kept_off (fun _ => rfl) ?_
      simp only [Act.put, List.setIfInBounds_toArray, List.set_cons_zero, List.set_cons_succ, Nat.reduceAdd]
      refine kept_off (fun _ => rfl) ?_
      simp only [Act.put, List.setIfInBounds_toArray, List.set_cons_zero, List.set_cons_succ, Nat.reduceAdd]
      refine kept_off (fun _ => rfl) ?_
      simp only [Act.put, List.setIfInBounds_toArray, List.set_cons_zero, List.set_cons_succ, Nat.reduceAdd]
      refine kept_off (fun _ => rfl) ?_
      simp only [Act.put, List.setIfInBounds_toArray, List.set_cons_zero, List.set_cons_succ, Nat.reduceAdd]
      refine kept_off (fun _ => rfl) ?_
      simp only [Act.put, List.setIfInBounds_toArray, List.set_cons_zero, List.set_cons_succ, Nat.reduceAdd]
      refine kept_val _ (fun _ => rfl) (fun ρ w hw => by go_simp; first | done | with_reducible rfl) ?_
      simp only [Act.put, List.setIfInBounds_toArray, List.set_cons_zero, List.set_cons_succ, Nat.reduceAdd]
      refine kept_end (fun ρ w13 hF => ?_)
      replace x4 := x4.below hF.below
      replace x14 := x14.below hF.below
      replace x15 := x15.below hF.below
      replace hb := bto hb hF.below
      clear hF
      clear x14
      clear x15
      go_wp2_with fail
      refine wp_region_kept (by kernel_rfl) (by kernel_rfl) ?_
      refine kept_val _ (fun _ => rfl) (fun ρ w hw => by have q0 := (x4.below hw).c0; have q1 := (x4.below hw).c1; go_simp; first | done | with_reducible rfl) ?_
      simp only [Act.put, List.setIfInBounds_toArray, List.set_cons_zero, List.set_cons_succ, Nat.reduceAdd]
      refine kept_val _ (fun _ => rfl) (fun ρ w hw => by go_simp; first | done | with_reducible rfl) ?_
      simp only [Act.put, List.setIfInBounds_toArray, List.set_cons_zero, List.set_cons_succ, Nat.reduceAdd]
      refine kept_call _ _ _ (fun _ => rfl) (fun ρ w hw => by go_simp; first | done | with_reducible rfl) (fun w hw => O2.out.of hG (bto hb hw)) ?_
      simp only [Act.put, List.setIfInBounds_toArray, List.set_cons_zero, List.set_cons_succ, Nat.reduceAdd]
      refine kept_call _ _ _ (fun _ => rfl) (fun ρ w hw => by go_simp; first | done | with_reducible rfl) (fun w hw => A2c.out.of hG (bto hb hw)) ?_
      simp only [Act.put, List.setIfInBounds_toArray, List.set_cons_zero, List.set_cons_succ, Nat.reduceAdd]
      refine kept_val _ (fun _ => rfl) (fun ρ w hw => by go_simp; first | done | with_reducible rfl) ?_
      simp only [Act.put, List.setIfInBounds_toArray, List.set_cons_zero, List.set_cons_succ, Nat.reduceAdd]
      refine kept_call _ _ _ (fun _ => rfl) (fun ρ w hw => by go_simp; first | done | with_reducible rfl) (fun w hw => CR.out.of hG (bto hb hw)) ?_
      simp only [Act.put, List.setIfInBounds_toArray, List.set_cons_zero, List.set_cons_succ, Nat.reduceAdd]
      refine kept_val _ (fun _ => rfl) (fun ρ w hw => by go_simp; first | done | with_reducible rfl) ?_
      simp only [Act.put, List.setIfInBounds_toArray, List.set_cons_zero, List.set_cons_succ, Nat.reduceAdd]
      refine kept_val _ (fun _ => rfl) (fun ρ w hw => by go_simp; first | done | with_reducible rfl) ?_
      simp only [Act.put, List.setIfInBounds_toArray, List.set_cons_zero, List.set_cons_succ, Nat.reduceAdd]
      refine kept_val _ (fun _ => rfl) (fun ρ w hw => by go_simp; first | done | with_reducible rfl) ?_
      simp only [Act.put, List.setIfInBounds_toArray, List.set_cons_zero, List.set_cons_succ, Nat.reduceAdd]
      refine kept_val _ (fun _ => rfl) (fun ρ w hw => by go_simp; first | done | with_reducible rfl) ?_
      simp only [Act.put, List.setIfInBounds_toArray, List.set_cons_zero, List.set_cons_succ, Nat.reduceAdd]
      refine kept_val _ (fun _ => rfl) (fun ρ w hw => by go_simp; first | done | with_reducible rfl) ?_
      simp only [Act.put, List.setIfInBounds_toArray, List.set_cons_zero, List.set_cons_succ, Nat.reduceAdd]
      refine kept_end (fun ρ w14 hF => ?_)
      replace x4 := x4.below hF.below
      replace hb := bto hb hF.below
      clear hF
      go_wp2_with fail
      ((with_reducible refine (S2c.out.of hG hb).mono ?_); rintro e w15 ⟨rfl, hb15⟩)
      replace x4 := x4.below hb15
      replace hb := bto hb hb15
      clear hb15
      go_wp2_with fail
      ((with_reducible refine (CW.out.of hG hb).mono ?_); rintro e w16 ⟨rfl, hb16⟩)
      replace x4 := x4.below hb16
      replace hb := bto hb hb16
      clear hb16
      go_wp2
      go_ret
      exact ⟨rfl, hb⟩
    have e1 := intbne mm
    have e2 := bneq' e1
    clear mm
    by_cases ha : ca < 0
    · have ha' : decide (ca < 0) = true := decide_eq_true ha
      by_cases hbb : cb < 0
      · have hbb' : decide (cb < 0) = true := decide_eq_true hbb
        have CR := Lib.hid (HR2.out (.inr ⟨m1, by rw [ha', hbb']; rfl⟩))
        clear HR1 HR2
        go_wp2_with fail
        refine wp_region_kept (by kernel_rfl) (by kernel_rfl) ?_
        refine kept_val _ (fun _ => rfl) (fun ρ w hw => by go_simp; first | done | with_reducible rfl) ?_
        simp only [Act.put, List.setIfInBounds_toArray, List.set_cons_zero, List.set_cons_succ, Nat.reduceAdd]
        refine kept_val _ (fun _ => rfl) (fun ρ w hw => by go_simp; first | done | with_reducible rfl) ?_
        simp only [Act.put, List.setIfInBounds_toArray, List.set_cons_zero, List.set_cons_succ, Nat.reduceAdd]
        refine kept_val _ (fun _ => rfl) (fun ρ w hw => by go_simp; first | done | with_reducible rfl) ?_
        simp only [Act.put, List.setIfInBounds_toArray, List.set_cons_zero, List.set_cons_succ, Nat.reduceAdd]
        refine kept_val _ (fun _ => rfl) (fun ρ w hw => by have q0 := (x4.below hw).c0; have q1 := (x4.below hw).c1; go_simp; first | done | with_reducible rfl) ?_
        simp only [Act.put, List.setIfInBounds_toArray, List.set_cons_zero, List.set_cons_succ, Nat.reduceAdd]
        refine kept_val _ (fun _ => rfl) (fun ρ w hw => by have q0 := (x15.below hw).c0; have q1 := (x15.below hw).c1; go_simp; first | done | with_reducible rfl) ?_
        simp only [Act.put, List.setIfInBounds_toArray, List.set_cons_zero, List.set_cons_succ, Nat.reduceAdd]
        refine kept_call _ _ _ (fun _ => rfl) (fun ρ w hw => by go_simp; first | done | with_reducible rfl) (fun w hw => CC1.out.of hG (bto hb hw)) ?_
        simp only [Act.put, List.setIfInBounds_toArray, List.set_cons_zero, List.set_cons_succ, Nat.reduceAdd]
        refine kept_val _ (fun _ => rfl) (fun ρ w hw => by go_simp; first | done | with_reducible rfl) ?_
        simp only [Act.put, List.setIfInBounds_toArray, List.set_cons_zero, List.set_cons_succ, Nat.reduceAdd]
        refine kept_val _ (fun _ => rfl) (fun ρ w hw => by have q0 := (x14.below hw).c0; have q1 := (x14.below hw).c1; go_simp; first | done | with_reducible rfl) ?_
        simp only [Act.put, List.setIfInBounds_toArray, List.set_cons_zero, List.set_cons_succ, Nat.reduceAdd]
        refine kept_val _ (fun _ => rfl) (fun ρ w hw => by have q0 := (x15.below hw).c0; have q1 := (x15.below hw).c1; go_simp; first | done | with_reducible rfl) ?_
        simp only [Act.put, List.setIfInBounds_toArray, List.set_cons_zero, List.set_cons_succ, Nat.reduceAdd]
        refine kept_call _ _ _ (fun _ => rfl) (fun ρ w hw => by go_simp; first | done | with_reducible rfl) (fun w hw => CC2.out.of hG (bto hb hw)) ?_
        simp only [Act.put, List.setIfInBounds_toArray, List.set_cons_zero, List.set_cons_succ, Nat.reduceAdd]
        refine kept_val _ (fun _ => rfl) (fun ρ w hw => by go_simp; first | done | with_reducible rfl) ?_
        simp only [Act.put, List.setIfInBounds_toArray, List.set_cons_zero, List.set_cons_succ, Nat.reduceAdd]
        refine kept_val _ (fun _ => rfl) (fun ρ w hw => by go_simp; first | done | with_reducible rfl) ?_
        simp only [Act.put, List.setIfInBounds_toArray, List.set_cons_zero, List.set_cons_succ, Nat.reduceAdd]
        refine kept_val _ (fun _ => rfl) (fun ρ w hw => by go_simp; first | done | with_reducible rfl) ?_
        simp only [Act.put, List.setIfInBounds_toArray, List.set_cons_zero, List.set_cons_succ, Nat.reduceAdd]
        refine kept_end (fun ρ w13 hF => ?_)
        replace x4 := x4.below hF.below
        replace x14 := x14.below hF.below
        replace x15 := x15.below hF.below
        replace hb := bto hb hF.below
        clear hF
        clear x14
        clear x15
        clear ha ha' hbb hbb'
        go_wp2_with fail
        refine wp_region_kept (by kernel_rfl) (by kernel_rfl) ?_
        refine kept_val _ (fun _ => rfl) (fun ρ w hw => by have q0 := (x4.below hw).c0; have q1 := (x4.below hw).c1; go_simp; first | done | with_reducible rfl) ?_
        simp only [Act.put, List.setIfInBounds_toArray, List.set_cons_zero, List.set_cons_succ, Nat.reduceAdd]
        refine kept_val _ (fun _ => rfl) (fun ρ w hw => by go_simp; first | done | with_reducible rfl) ?_
        simp only [Act.put, List.setIfInBounds_toArray, List.set_cons_zero, List.set_cons_succ, Nat.reduceAdd]
        refine kept_call _ _ _ (fun _ => rfl) (fun ρ w hw => by go_simp; first | done | with_reducible rfl) (fun w hw => O2.out.of hG (bto hb hw)) ?_
        simp only [Act.put, List.setIfInBounds_toArray, List.set_cons_zero, List.set_cons_succ, Nat.reduceAdd]
        refine kept_call _ _ _ (fun _ => rfl) (fun ρ w hw => by go_simp; first | done | with_reducible rfl) (fun w hw => A2c.out.of hG (bto hb hw)) ?_
        simp only [Act.put, List.setIfInBounds_toArray, List.set_cons_zero, List.set_cons_succ, Nat.reduceAdd]
        refine kept_val _ (fun _ => rfl) (fun ρ w hw => by go_simp; first | done | with_reducible rfl) ?_
        simp only [Act.put, List.setIfInBounds_toArray, List.set_cons_zero, List.set_cons_succ, Nat.reduceAdd]
        refine kept_call _ _ _ (fun _ => rfl) (fun ρ w hw => by go_simp; first | done | with_reducible rfl) (fun w hw => CR.out.of hG (bto hb hw)) ?_
        simp only [Act.put, List.setIfInBounds_toArray, List.set_cons_zero, List.set_cons_succ, Nat.reduceAdd]
        refine kept_val _ (fun _ => rfl) (fun ρ w hw => by go_simp; first | done | with_reducible rfl) ?_
        simp only [Act.put, List.setIfInBounds_toArray, List.set_cons_zero, List.set_cons_succ, Nat.reduceAdd]
        refine kept_val _ (fun _ => rfl) (fun ρ w hw => by go_simp; first | done | with_reducible rfl) ?_
        simp only [Act.put, List.setIfInBounds_toArray, List.set_cons_zero, List.set_cons_succ, Nat.reduceAdd]
        refine kept_val _ (fun _ => rfl) (fun ρ w hw => by go_simp; first | done | with_reducible rfl) ?_
        simp only [Act.put, List.setIfInBounds_toArray, List.set_cons_zero, List.set_cons_succ, Nat.reduceAdd]
        refine kept_val _ (fun _ => rfl) (fun ρ w hw => by go_simp; first | done | with_reducible rfl) ?_
        simp only [Act.put, List.setIfInBounds_toArray, List.set_cons_zero, List.set_cons_succ, Nat.reduceAdd]
        refine kept_val _ (fun _ => rfl) (fun ρ w hw => by go_simp; first | done | with_reducible rfl) ?_
        simp only [Act.put, List.setIfInBounds_toArray, List.set_cons_zero, List.set_cons_succ, Nat.reduceAdd]
        refine kept_end (fun ρ w14 hF => ?_)
        replace x4 := x4.below hF.below
        replace hb := bto hb hF.below
        clear hF
        go_wp2_with fail
        ((with_reducible refine (S2c.out.of hG hb).mono ?_); rintro e w15 ⟨rfl, hb15⟩)
        replace x4 := x4.below hb15
        replace hb := bto hb hb15
        clear hb15
        go_wp2_with fail
        ((with_reducible refine (CW.out.of hG hb).mono ?_); rintro e w16 ⟨rfl, hb16⟩)
        replace x4 := x4.below hb16
        replace hb := bto hb hb16
        clear hb16
        go_wp2
        go_ret
        exact ⟨rfl, hb⟩
      · have hbb' : decide (cb < 0) = false := decide_eq_false hbb
        go_wp2_with fail
        refine wp_region_kept (by kernel_rfl) (by kernel_rfl) ?_
        refine kept_val _ (fun _ => rfl) (fun ρ w hw => by go_simp; first | done | with_reducible rfl) ?_
        simp only [Act.put, List.setIfInBounds_toArray, List.set_cons_zero, List.set_cons_succ, Nat.reduceAdd]
        refine kept_val _ (fun _ => rfl) (fun ρ w hw => by go_simp; first | done | with_reducible rfl) ?_
        simp only [Act.put, List.setIfInBounds_toArray, List.set_cons_zero, List.set_cons_succ, Nat.reduceAdd]
        refine kept_val _ (fun _ => rfl) (fun ρ w hw => by go_simp; first | done | with_reducible rfl) ?_
        simp only [Act.put, List.setIfInBounds_toArray, List.set_cons_zero, List.set_cons_succ, Nat.reduceAdd]
        refine kept_val _ (fun _ => rfl) (fun ρ w hw => by have q0 := (x4.below hw).c0; have q1 := (x4.below hw).c1; go_simp; first | done | with_reducible rfl) ?_
        simp only [Act.put, List.setIfInBounds_toArray, List.set_cons_zero, List.set_cons_succ, Nat.reduceAdd]
        refine kept_val _ (fun _ => rfl) (fun ρ w hw => by have q0 := (x15.below hw).c0; have q1 := (x15.below hw).c1; go_simp; first | done | with_reducible rfl) ?_
        simp only [Act.put, List.setIfInBounds_toArray, List.set_cons_zero, List.set_cons_succ, Nat.reduceAdd]
        refine kept_call _ _ _ (fun _ => rfl) (fun ρ w hw => by go_simp; first | done | with_reducible rfl) (fun w hw => CC1.out.of hG (bto hb hw)) ?_
        simp only [Act.put, List.setIfInBounds_toArray, List.set_cons_zero, List.set_cons_succ, Nat.reduceAdd]
        refine kept_val _ (fun _ => rfl) (fun ρ w hw => by go_simp; first | done | with_reducible rfl) ?_
        simp only [Act.put, List.setIfInBounds_toArray, List.set_cons_zero, List.set_cons_succ, Nat.reduceAdd]
        refine kept_val _ (fun _ => rfl) (fun ρ w hw => by have q0 := (x14.below hw).c0; have q1 := (x14.below hw).c1; go_simp; first | done | with_reducible rfl) ?_
        simp only [Act.put, List.setIfInBounds_toArray, List.set_cons_zero, List.set_cons_succ, Nat.reduceAdd]
        refine kept_val _ (fun _ => rfl) (fun ρ w hw => by have q0 := (x15.below hw).c0; have q1 := (x15.below hw).c1; go_simp; first | done | with_reducible rfl) ?_
        simp only [Act.put, List.setIfInBounds_toArray, List.set_cons_zero, List.set_cons_succ, Nat.reduceAdd]
        refine kept_call _ _ _ (fun _ => rfl) (fun ρ w hw => by go_simp; first | done | with_reducible rfl) (fun w hw => CC2.out.of hG (bto hb hw)) ?_
        simp only [Act.put, List.setIfInBounds_toArray, List.set_cons_zero, List.set_cons_succ, Nat.reduceAdd]
        refine kept_val _ (fun _ => rfl) (fun ρ w hw => by go_simp; first | done | with_reducible rfl) ?_
        simp only [Act.put, List.setIfInBounds_toArray, List.set_cons_zero, List.set_cons_succ, Nat.reduceAdd]
        refine kept_val _ (fun _ => rfl) (fun ρ w hw => by go_simp; first | done | with_reducible rfl) ?_
        simp only [Act.put, List.setIfInBounds_toArray, List.set_cons_zero, List.set_cons_succ, Nat.reduceAdd]
        refine kept_val _ (fun _ => rfl) (fun ρ w hw => by go_simp; first | done | with_reducible rfl) ?_
        simp only [Act.put, List.setIfInBounds_toArray, List.set_cons_zero, List.set_cons_succ, Nat.reduceAdd]
        refine kept_end (fun ρ w13 hF => ?_)
        replace x4 := x4.below hF.below
        replace x14 := x14.below hF.below
        replace x15 := x15.below hF.below
        replace hb := bto hb hF.below
        clear hF
        clear x14
        clear x15
        clear ha ha' hbb hbb'
        clear x4
        go_wp2_with fail
        ((with_reducible refine (CW.out.of hG hb).mono ?_); rintro e w14 ⟨rfl, hb14⟩)
        replace hb := bto hb hb14
        clear hb14
        go_wp2
        go_ret
        exact ⟨rfl, hb⟩
    · have ha' : decide (ca < 0) = false := decide_eq_false ha
      by_cases hbb : cb < 0
      · have hbb' : decide (cb < 0) = true := decide_eq_true hbb
        go_wp2_with fail
        refine wp_region_kept (by kernel_rfl) (by kernel_rfl) ?_
        refine kept_val _ (fun _ => rfl) (fun ρ w hw => by go_simp; first | done | with_reducible rfl) ?_
        simp only [Act.put, List.setIfInBounds_toArray, List.set_cons_zero, List.set_cons_succ, Nat.reduceAdd]
        refine kept_val _ (fun _ => rfl) (fun ρ w hw => by go_simp; first | done | with_reducible rfl) ?_
        simp only [Act.put, List.setIfInBounds_toArray, List.set_cons_zero, List.set_cons_succ, Nat.reduceAdd]
        refine kept_val _ (fun _ => rfl) (fun ρ w hw => by go_simp; first | done | with_reducible rfl) ?_
        simp only [Act.put, List.setIfInBounds_toArray, List.set_cons_zero, List.set_cons_succ, Nat.reduceAdd]
        refine kept_val _ (fun _ => rfl) (fun ρ w hw => by have q0 := (x4.below hw).c0; have q1 := (x4.below hw).c1; go_simp; first | done | with_reducible rfl) ?_
        simp only [Act.put, List.setIfInBounds_toArray, List.set_cons_zero, List.set_cons_succ, Nat.reduceAdd]
        refine kept_val _ (fun _ => rfl) (fun ρ w hw => by have q0 := (x15.below hw).c0; have q1 := (x15.below hw).c1; go_simp; first | done | with_reducible rfl) ?_
        simp only [Act.put, List.setIfInBounds_toArray, List.set_cons_zero, List.set_cons_succ, Nat.reduceAdd]
        refine kept_call _ _ _ (fun _ => rfl) (fun ρ w hw => by go_simp; first | done | with_reducible rfl) (fun w hw => CC1.out.of hG (bto hb hw)) ?_
        simp only [Act.put, List.setIfInBounds_toArray, List.set_cons_zero, List.set_cons_succ, Nat.reduceAdd]
        refine kept_val _ (fun _ => rfl) (fun ρ w hw => by go_simp; first | done | with_reducible rfl) ?_
        simp only [Act.put, List.setIfInBounds_toArray, List.set_cons_zero, List.set_cons_succ, Nat.reduceAdd]
        refine kept_val _ (fun _ => rfl) (fun ρ w hw => by have q0 := (x14.below hw).c0; have q1 := (x14.below hw).c1; go_simp; first | done | with_reducible rfl) ?_
        simp only [Act.put, List.setIfInBounds_toArray, List.set_cons_zero, List.set_cons_succ, Nat.reduceAdd]
        refine kept_val _ (fun _ => rfl) (fun ρ w hw => by have q0 := (x15.below hw).c0; have q1 := (x15.below hw).c1; go_simp; first | done | with_reducible rfl) ?_
        simp only [Act.put, List.setIfInBounds_toArray, List.set_cons_zero, List.set_cons_succ, Nat.reduceAdd]
        refine kept_call _ _ _ (fun _ => rfl) (fun ρ w hw => by go_simp; first | done | with_reducible rfl) (fun w hw => CC2.out.of hG (bto hb hw)) ?_
        simp only [Act.put, List.setIfInBounds_toArray, List.set_cons_zero, List.set_cons_succ, Nat.reduceAdd]
        refine kept_val _ (fun _ => rfl) (fun ρ w hw => by go_simp; first | done | with_reducible rfl) ?_
        simp only [Act.put, List.setIfInBounds_toArray, List.set_cons_zero, List.set_cons_succ, Nat.reduceAdd]
        refine kept_val _ (fun _ => rfl) (fun ρ w hw => by go_simp; first | done | with_reducible rfl) ?_
        simp only [Act.put, List.setIfInBounds_toArray, List.set_cons_zero, List.set_cons_succ, Nat.reduceAdd]
        refine kept_val _ (fun _ => rfl) (fun ρ w hw => by go_simp; first | done | with_reducible rfl) ?_
        simp only [Act.put, List.setIfInBounds_toArray, List.set_cons_zero, List.set_cons_succ, Nat.reduceAdd]
        refine kept_end (fun ρ w13 hF => ?_)
        replace x4 := x4.below hF.below
        replace x14 := x14.below hF.below
        replace x15 := x15.below hF.below
        replace hb := bto hb hF.below
        clear hF
        clear x14
        clear x15
        clear ha ha' hbb hbb'
        clear x4
        go_wp2_with fail
        ((with_reducible refine (CW.out.of hG hb).mono ?_); rintro e w14 ⟨rfl, hb14⟩)
        replace hb := bto hb hb14
        clear hb14
        go_wp2
        go_ret
        exact ⟨rfl, hb⟩
      · have hbb' : decide (cb < 0) = false := decide_eq_false hbb
        have CR := Lib.hid (HR2.out (.inr ⟨m1, by rw [ha', hbb']; rfl⟩))
        clear HR1 HR2
        go_wp2_with fail
        refine wp_region_kept (by kernel_rfl) (by kernel_rfl) ?_
        refine kept_val _ (fun _ => rfl) (fun ρ w hw => by go_simp; first | done | with_reducible rfl) ?_
        simp only [Act.put, List.setIfInBounds_toArray, List.set_cons_zero, List.set_cons_succ, Nat.reduceAdd]
        refine kept_val _ (fun _ => rfl) (fun ρ w hw => by go_simp; first | done | with_reducible rfl) ?_
        simp only [Act.put, List.setIfInBounds_toArray, List.set_cons_zero, List.set_cons_succ, Nat.reduceAdd]
        refine kept_val _ (fun _ => rfl) (fun ρ w hw => by go_simp; first | done | with_reducible rfl) ?_
        simp only [Act.put, List.setIfInBounds_toArray, List.set_cons_zero, List.set_cons_succ, Nat.reduceAdd]
        refine kept_val _ (fun _ => rfl) (fun ρ w hw => by have q0 := (x4.below hw).c0; have q1 := (x4.below hw).c1; go_simp; first | done | with_reducible rfl) ?_
        simp only [Act.put, List.setIfInBounds_toArray, List.set_cons_zero, List.set_cons_succ, Nat.reduceAdd]
        refine kept_val _ (fun _ => rfl) (fun ρ w hw => by have q0 := (x15.below hw).c0; have q1 := (x15.below hw).c1; go_simp; first | done | with_reducible rfl) ?_
        simp only [Act.put, List.setIfInBounds_toArray, List.set_cons_zero, List.set_cons_succ, Nat.reduceAdd]
        refine kept_call _ _ _ (fun _ => rfl) (fun ρ w hw => by go_simp; first | done | with_reducible rfl) (fun w hw => CC1.out.of hG (bto hb hw)) ?_
        simp only [Act.put, List.setIfInBounds_toArray, List.set_cons_zero, List.set_cons_succ, Nat.reduceAdd]
        refine kept_val _ (fun _ => rfl) (fun ρ w hw => by go_simp; first | done | with_reducible rfl) ?_
        simp only [Act.put, List.setIfInBounds_toArray, List.set_cons_zero, List.set_cons_succ, Nat.reduceAdd]
        refine kept_val _ (fun _ => rfl) (fun ρ w hw => by have q0 := (x14.below hw).c0; have q1 := (x14.below hw).c1; go_simp; first | done | with_reducible rfl) ?_
        simp only [Act.put, List.setIfInBounds_toArray, List.set_cons_zero, List.set_cons_succ, Nat.reduceAdd]
        refine kept_val _ (fun _ => rfl) (fun ρ w hw => by have q0 := (x15.below hw).c0; have q1 := (x15.below hw).c1; go_simp; first | done | with_reducible rfl) ?_
        simp only [Act.put, List.setIfInBounds_toArray, List.set_cons_zero, List.set_cons_succ, Nat.reduceAdd]
        refine kept_call _ _ _ (fun _ => rfl) (fun ρ w hw => by go_simp; first | done | with_reducible rfl) (fun w hw => CC2.out.of hG (bto hb hw)) ?_
        simp only [Act.put, List.setIfInBounds_toArray, List.set_cons_zero, List.set_cons_succ, Nat.reduceAdd]
        refine kept_val _ (fun _ => rfl) (fun ρ w hw => by go_simp; first | done | with_reducible rfl) ?_
        simp only [Act.put, List.setIfInBounds_toArray, List.set_cons_zero, List.set_cons_succ, Nat.reduceAdd]
        refine kept_val _ (fun _ => rfl) (fun ρ w hw => by go_simp; first | done | with_reducible rfl) ?_
        simp only [Act.put, List.setIfInBounds_toArray, List.set_cons_zero, List.set_cons_succ, Nat.reduceAdd]
        refine kept_val _ (fun _ => rfl) (fun ρ w hw => by go_simp; first | done | with_reducible rfl) ?_
        simp only [Act.put, List.setIfInBounds_toArray, List.set_cons_zero, List.set_cons_succ, Nat.reduceAdd]
        refine kept_end (fun ρ w13 hF => ?_)
        replace x4 := x4.below hF.below
        replace x14 := x14.below hF.below
        replace x15 := x15.below hF.below
        replace hb := bto hb hF.below
        clear hF
        clear x14
        clear x15
        clear ha ha' hbb hbb'
        go_wp2_with fail
        refine wp_region_kept (by kernel_rfl) (by kernel_rfl) ?_
        refine kept_val _ (fun _ => rfl) (fun ρ w hw => by have q0 := (x4.below hw).c0; have q1 := (x4.below hw).c1; go_simp; first | done | with_reducible rfl) ?_
        simp only [Act.put, List.setIfInBounds_toArray, List.set_cons_zero, List.set_cons_succ, Nat.reduceAdd]
        refine kept_val _ (fun _ => rfl) (fun ρ w hw => by go_simp; first | done | with_reducible rfl) ?_
        simp only [Act.put, List.setIfInBounds_toArray, List.set_cons_zero, List.set_cons_succ, Nat.reduceAdd]
        refine kept_call _ _ _ (fun _ => rfl) (fun ρ w hw => by go_simp; first | done | with_reducible rfl) (fun w hw => O2.out.of hG (bto hb hw)) ?_
        simp only [Act.put, List.setIfInBounds_toArray, List.set_cons_zero, List.set_cons_succ, Nat.reduceAdd]
        refine kept_call _ _ _ (fun _ => rfl) (fun ρ w hw => by go_simp; first | done | with_reducible rfl) (fun w hw => A2c.out.of hG (bto hb hw)) ?_
        simp only [Act.put, List.setIfInBounds_toArray, List.set_cons_zero, List.set_cons_succ, Nat.reduceAdd]
        refine kept_val _ (fun _ => rfl) (fun ρ w hw => by go_simp; first | done | with_reducible rfl) ?_
        simp only [Act.put, List.setIfInBounds_toArray, List.set_cons_zero, List.set_cons_succ, Nat.reduceAdd]
        refine kept_call _ _ _ (fun _ => rfl) (fun ρ w hw => by go_simp; first | done | with_reducible rfl) (fun w hw => CR.out.of hG (bto hb hw)) ?_
        simp only [Act.put, List.setIfInBounds_toArray, List.set_cons_zero, List.set_cons_succ, Nat.reduceAdd]
        refine kept_val _ (fun _ => rfl) (fun ρ w hw => by go_simp; first | done | with_reducible rfl) ?_
        simp only [Act.put, List.setIfInBounds_toArray, List.set_cons_zero, List.set_cons_succ, Nat.reduceAdd]
        refine kept_val _ (fun _ => rfl) (fun ρ w hw => by go_simp; first | done | with_reducible rfl) ?_
        simp only [Act.put, List.setIfInBounds_toArray, List.set_cons_zero, List.set_cons_succ, Nat.reduceAdd]
        refine kept_val _ (fun _ => rfl) (fun ρ w hw => by go_simp; first | done | with_reducible rfl) ?_
        simp only [Act.put, List.setIfInBounds_toArray, List.set_cons_zero, List.set_cons_succ, Nat.reduceAdd]
        refine kept_val _ (fun _ => rfl) (fun ρ w hw => by go_simp; first | done | with_reducible rfl) ?_
        simp only [Act.put, List.setIfInBounds_toArray, List.set_cons_zero, List.set_cons_succ, Nat.reduceAdd]
        refine kept_val _ (fun _ => rfl) (fun ρ w hw => by go_simp; first | done | with_reducible rfl) ?_
        simp only [Act.put, List.setIfInBounds_toArray, List.set_cons_zero, List.set_cons_succ, Nat.reduceAdd]
        refine kept_end (fun ρ w14 hF => ?_)
        replace x4 := x4.below hF.below
        replace hb := bto hb hF.below
        clear hF
        go_wp2_with fail
        ((with_reducible refine (S2c.out.of hG hb).mono ?_); rintro e w15 ⟨rfl, hb15⟩)
        replace x4 := x4.below hb15
        replace hb := bto hb hb15
        clear hb15
        go_wp2_with fail
        ((with_reducible refine (CW.out.of hG hb).mono ?_); rintro e w16 ⟨rfl, hb16⟩)
        replace x4 := x4.below hb16
        replace hb := bto hb hb16
        clear hb16
        go_wp2
        go_ret
        exact ⟨rfl, hb⟩
end Go.Proofs.YtmmhimgkpfcokaaGreatDoor
