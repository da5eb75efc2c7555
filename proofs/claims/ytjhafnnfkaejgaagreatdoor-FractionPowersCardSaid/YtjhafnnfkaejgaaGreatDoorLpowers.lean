/- FractionPowers. -/
import Derived.Test.YtjhafnnfkaejgaaGreatDoorPowr
import Derived.IntWalk
namespace Go.Proofs.YtjhafnnfkaejgaaGreatDoor
open Go.RowKit Num

set_option maxHeartbeats 4000000 in
set_option maxRecDepth 100000 in
theorem powers_law (l l' : List UInt8) (m n : Int) (hm1 : -128 ≤ m) (hm2 : m ≤ 127) (hn1 : -128 ≤ n) (hn2 : n ≤ 127) (w : World) (hG : Glob w) :
    Calls Tryz.prog 5 #[(Value.agg #[Value.string ⟨List.toArray l⟩, Value.string ⟨List.toArray l'⟩]), .int .i8 m, .int .i8 n] w fun e w' => e = .returned (.bool true) ∧ Below w.heap.size w w' := by
  have hi9 := tmod9 m
  have hk9 := tmod9 n
  have cW := rAwake
  go_enter Tryz.func5, Tryz.ntmps5
  go_wp2_with fail
  ((with_reducible refine (long_any _ 1 1 (fun i => [l, l'].getD i []) _ (by decide) ?_).mono ?_))
  · intro i hi
    have hi : i = 0 ∨ i = 1 := by omega
    rcases hi with rfl | rfl <;> simp [go_sem]
  rintro e w1 ⟨hres, hb1⟩
  have x3 : FBox w1 (w.heap.size) (.string ⟨l.toArray⟩) (.string ⟨l'.toArray⟩) := FBox.below ⟨by simp [go_sem], by simp [go_sem], by simp [go_sem], by simp [go_sem], by first | (simp; done) | (simp; omega)⟩ hb1
  have hb : Below w.heap.size w w1 := bto (bto (below_alloc _ _) (below_alloc _ _)) hb1
  clear hb1
  rcases hres with ⟨rfl, -⟩ | ⟨rfl, hlen⟩
  · go_wp2_with fail
    ((with_reducible refine (cW.of hG hb).mono ?_); rintro e w2 ⟨rfl, hb2⟩)
    go_wp2
    go_ret
    exact ⟨rfl, bto hb hb2⟩
  · have h0 : l.length ≤ 13 := hlen 0 (by decide)
    have h1 : l'.length ≤ 13 := hlen 1 (by decide)
    clear hlen
    have bF : Bd 13 (fv l l') := bd_fv h0 h1 (by decide)
    have iF := isq_raw h0 h1 (by decide)
    have h0' : l.length ≤ 1000 := Nat.le_trans h0 (by decide)
    have h1' : l'.length ≤ 1000 := Nat.le_trans h1 (by decide)
    obtain ⟨q, hq⟩ : ∃ q, fv l l' = q := ⟨_, rfl⟩
    rw [hq] at iF bF
    obtain ⟨z, hz⟩ : ∃ z, cmpQ q 0 = z := ⟨_, rfl⟩
    have c1 := rCompare iF isq_zero hz
    have hzq : z = 0 ↔ q = 0 := by rw [← hz]; exact cmpQ_eq q 0
    have cP : ∀ n : Int, -400 ≤ n → n ≤ 400 → (0 ≤ n ∨ q ≠ 0) → Ret 30 #[(Value.agg #[Value.string ⟨List.toArray l⟩, Value.string ⟨List.toArray l'⟩]), .int .i64 n] _ := fun n a b c => rPow h0' h1' hq n a b c rfl
    have cZ : q = 0 → ∀ n : Int, -400 ≤ n → n < 0 → Ret 30 #[(Value.agg #[Value.string ⟨List.toArray l⟩, Value.string ⟨List.toArray l'⟩]), .int .i64 n] _ := fun e n a b => rPow0 h0' h1' (hq.trans e) n a b
    have c0 := rPow h0' h1' hq 0 (by decide) (by decide) (.inl (by decide)) (Rat.zpow_zero q)
    have c01 := rPow h0' h1' hq 1 (by decide) (by decide) (.inl (by decide)) (Rat.zpow_one q)
    have cO := rOf (l := [49]) (by decide) (show val [49] = 1 by decide)
    have cA := rAdd iF isq_zero (Rat.add_zero q)
    have e1 : (((1 : Int) : Rat)) = 1 := rfl
    rw [e1] at cO
    have hcM : ∀ i k : Int, -8 ≤ i → i ≤ 8 → -8 ≤ k → k ≤ 8 → ((0 ≤ i ∧ 0 ≤ k) ∨ q ≠ 0) → Ret 28 _ _ := fun i k a b c d e =>
      rMul (isq_fr (bd_zpow bF i (m := 8) (by omega)) (by decide)) (isq_fr (bd_zpow bF k (m := 8) (by omega)) (by decide)) (zpow_add' q i k e)
    generalize fN (1 : Rat) = O0 at *
    generalize fD (1 : Rat) = O1 at *
    have HZ := Lib.hid hzq
    have HP := Lib.hid cP
    have HQ := Lib.hid cZ
    have HM := Lib.hid hcM
    have H9 := Lib.hid hi9
    have HK := Lib.hid hk9
    clear hzq cP cZ hcM hi9 hk9 hz hq iF bF h0 h1 h0' h1' e1
    have qx3a := x3.c0
    have qx3b := x3.c1
    go_wp2_with fail
    ((with_reducible refine (c1.of hG hb).mono ?_); rintro e w2 ⟨rfl, hb2⟩)
    clear qx3a qx3b
    replace x3 := x3.below hb2
    replace hb := bto hb hb2
    clear hb2
    have hik := H9.out
    have hkk := HK.out
    generalize m.tmod 9 = i at *
    generalize n.tmod 9 = k at *
    obtain ⟨i1, i2⟩ := hik
    obtain ⟨k1, k2⟩ := hkk
    clear H9 HK hm1 hm2 hn1 hn2
    by_cases hq0 : q = 0
    · have z0 : (z == 0) = true := by rw [beq_iff_eq]; exact HZ.out.2 hq0
      by_cases hi : i < 0
      · have d1 : decide (i < 0) = true := decide_eq_true hi
        have hb0 := HQ.out hq0 (min i k) (by omega) (by omega)
        clear HZ HP HQ HM hq0
        have qx3a := x3.c0
        have qx3b := x3.c1
        go_wp2_with fail
        ((with_reducible refine (hb0.of hG hb).mono ?_); rintro e w3 ⟨rfl, hb3⟩)
        clear qx3a qx3b
        replace x3 := x3.below hb3
        replace hb := bto hb hb3
        clear hb3
        replace x3 := x3.below (below_alloc w3 (.cells #[.string ⟨#[]⟩, .string ⟨#[]⟩] 24))
        have x9 := FBox.new w3 (.string ⟨#[]⟩) (.string ⟨#[]⟩) 24
        replace hb := bto hb (below_alloc w3 (.cells #[.string ⟨#[]⟩, .string ⟨#[]⟩] 24))
        go_wp2_with fail
        ((with_reducible refine (cW.of hG hb).mono ?_); rintro e w4 ⟨rfl, hb4⟩)
        replace x3 := x3.below hb4
        replace x9 := x9.below hb4
        replace hb := bto hb hb4
        clear hb4
        go_wp2
        go_ret
        exact ⟨rfl, hb⟩
      · have d1 : decide (i < 0) = false := decide_eq_false hi
        have d1' : 0 ≤ i := Int.not_lt.1 hi
        by_cases hk : k < 0
        · have d2 : decide (k < 0) = true := decide_eq_true hk
          have hb0 := HQ.out hq0 (min i k) (by omega) (by omega)
          clear HZ HP HQ HM hq0
          have qx3a := x3.c0
          have qx3b := x3.c1
          go_wp2_with fail
          ((with_reducible refine (hb0.of hG hb).mono ?_); rintro e w3 ⟨rfl, hb3⟩)
          clear qx3a qx3b
          replace x3 := x3.below hb3
          replace hb := bto hb hb3
          clear hb3
          replace x3 := x3.below (below_alloc w3 (.cells #[.string ⟨#[]⟩, .string ⟨#[]⟩] 24))
          have x9 := FBox.new w3 (.string ⟨#[]⟩) (.string ⟨#[]⟩) 24
          replace hb := bto hb (below_alloc w3 (.cells #[.string ⟨#[]⟩, .string ⟨#[]⟩] 24))
          go_wp2_with fail
          ((with_reducible refine (cW.of hG hb).mono ?_); rintro e w4 ⟨rfl, hb4⟩)
          replace x3 := x3.below hb4
          replace x9 := x9.below hb4
          replace hb := bto hb hb4
          clear hb4
          go_wp2
          go_ret
          exact ⟨rfl, hb⟩
        · have d2 : decide (k < 0) = false := decide_eq_false hk
          have d2' : 0 ≤ k := Int.not_lt.1 hk
          have d3 : decide (i + k < 0) = false := decide_eq_false (by omega)
          have d3' : 0 ≤ i + k := by omega
          have cI := HP.out i (by omega) (by omega) (.inl d1')
          have cK := HP.out k (by omega) (by omega) (.inl d2')
          have cS := HP.out (i + k) (by omega) (by omega) (.inl d3')
          have cM := HM.out i k i1 i2 k1 k2 (.inl ⟨d1', d2'⟩)
          clear HZ HP HQ HM hq0
          have kw : IntKind.i64.wrap (i + k) = i + k := IntWalk.i64_in _ (by omega)
          generalize fN (q ^ i) = A0 at *
          generalize fD (q ^ i) = A1 at *
          generalize fN (q ^ k) = B0 at *
          generalize fD (q ^ k) = B1 at *
          generalize fN (q ^ (i + k)) = C0 at *
          generalize fD (q ^ (i + k)) = C1 at *
          generalize fN q = F0 at *
          generalize fD q = F1 at *
          have qx3a := x3.c0
          have qx3b := x3.c1
          go_wp2_with fail
          ((with_reducible refine (cI.of hG hb).mono ?_); rintro e w3 ⟨rfl, hb3⟩)
          clear qx3a qx3b
          replace x3 := x3.below hb3
          replace hb := bto hb hb3
          clear hb3
          replace x3 := x3.below (below_alloc w3 (.cells #[.string ⟨A0.toArray⟩, .string ⟨A1.toArray⟩] 24))
          have x11 := FBox.new w3 (.string ⟨A0.toArray⟩) (.string ⟨A1.toArray⟩) 24
          replace hb := bto hb (below_alloc w3 (.cells #[.string ⟨A0.toArray⟩, .string ⟨A1.toArray⟩] 24))
          have qx3a := x3.c0
          have qx3b := x3.c1
          go_wp2_with fail
          ((with_reducible refine (cK.of hG hb).mono ?_); rintro e w4 ⟨rfl, hb4⟩)
          clear qx3a qx3b
          replace x3 := x3.below hb4
          replace x11 := x11.below hb4
          replace hb := bto hb hb4
          clear hb4
          replace x3 := x3.below (below_alloc w4 (.cells #[.string ⟨B0.toArray⟩, .string ⟨B1.toArray⟩] 24))
          replace x11 := x11.below (below_alloc w4 (.cells #[.string ⟨B0.toArray⟩, .string ⟨B1.toArray⟩] 24))
          have x13 := FBox.new w4 (.string ⟨B0.toArray⟩) (.string ⟨B1.toArray⟩) 24
          replace hb := bto hb (below_alloc w4 (.cells #[.string ⟨B0.toArray⟩, .string ⟨B1.toArray⟩] 24))
          have qx3a := x3.c0
          have qx3b := x3.c1
          go_wp2_with fail
          ((with_reducible refine (cS.of hG hb).mono ?_); rintro e w5 ⟨rfl, hb5⟩)
          clear qx3a qx3b
          replace x3 := x3.below hb5
          replace x11 := x11.below hb5
          replace x13 := x13.below hb5
          replace hb := bto hb hb5
          clear hb5
          replace x3 := x3.below (below_alloc w5 (.cells #[.string ⟨C0.toArray⟩, .string ⟨C1.toArray⟩] 24))
          replace x11 := x11.below (below_alloc w5 (.cells #[.string ⟨C0.toArray⟩, .string ⟨C1.toArray⟩] 24))
          replace x13 := x13.below (below_alloc w5 (.cells #[.string ⟨C0.toArray⟩, .string ⟨C1.toArray⟩] 24))
          have x15 := FBox.new w5 (.string ⟨C0.toArray⟩) (.string ⟨C1.toArray⟩) 24
          replace hb := bto hb (below_alloc w5 (.cells #[.string ⟨C0.toArray⟩, .string ⟨C1.toArray⟩] 24))
          have qx3a := x3.c0
          have qx3b := x3.c1
          go_wp2_with fail
          ((with_reducible refine (c0.of hG hb).mono ?_); rintro e w6 ⟨rfl, hb6⟩)
          clear qx3a qx3b
          replace x3 := x3.below hb6
          replace x11 := x11.below hb6
          replace x13 := x13.below hb6
          replace x15 := x15.below hb6
          replace hb := bto hb hb6
          clear hb6
          replace x3 := x3.below (below_alloc w6 (.cells #[.string ⟨O0.toArray⟩, .string ⟨O1.toArray⟩] 24))
          replace x11 := x11.below (below_alloc w6 (.cells #[.string ⟨O0.toArray⟩, .string ⟨O1.toArray⟩] 24))
          replace x13 := x13.below (below_alloc w6 (.cells #[.string ⟨O0.toArray⟩, .string ⟨O1.toArray⟩] 24))
          replace x15 := x15.below (below_alloc w6 (.cells #[.string ⟨O0.toArray⟩, .string ⟨O1.toArray⟩] 24))
          have x17 := FBox.new w6 (.string ⟨O0.toArray⟩) (.string ⟨O1.toArray⟩) 24
          replace hb := bto hb (below_alloc w6 (.cells #[.string ⟨O0.toArray⟩, .string ⟨O1.toArray⟩] 24))
          have qx3a := x3.c0
          have qx3b := x3.c1
          go_wp2_with fail
          ((with_reducible refine (c01.of hG hb).mono ?_); rintro e w7 ⟨rfl, hb7⟩)
          clear qx3a qx3b
          replace x3 := x3.below hb7
          replace x11 := x11.below hb7
          replace x13 := x13.below hb7
          replace x15 := x15.below hb7
          replace x17 := x17.below hb7
          replace hb := bto hb hb7
          clear hb7
          replace x3 := x3.below (below_alloc w7 (.cells #[.string ⟨F0.toArray⟩, .string ⟨F1.toArray⟩] 24))
          replace x11 := x11.below (below_alloc w7 (.cells #[.string ⟨F0.toArray⟩, .string ⟨F1.toArray⟩] 24))
          replace x13 := x13.below (below_alloc w7 (.cells #[.string ⟨F0.toArray⟩, .string ⟨F1.toArray⟩] 24))
          replace x15 := x15.below (below_alloc w7 (.cells #[.string ⟨F0.toArray⟩, .string ⟨F1.toArray⟩] 24))
          replace x17 := x17.below (below_alloc w7 (.cells #[.string ⟨F0.toArray⟩, .string ⟨F1.toArray⟩] 24))
          have x19 := FBox.new w7 (.string ⟨F0.toArray⟩) (.string ⟨F1.toArray⟩) 24
          replace hb := bto hb (below_alloc w7 (.cells #[.string ⟨F0.toArray⟩, .string ⟨F1.toArray⟩] 24))
          go_wp2_with fail
          refine wp_region_kept (by kernel_rfl) (by kernel_rfl) ?_
          refine kept_val _ (fun _ => rfl) (fun ρ w hw => by go_simp; first | done | with_reducible rfl) ?_
          simp only [Act.put, List.setIfInBounds_toArray, List.set_cons_zero, List.set_cons_succ, Nat.reduceAdd]
          refine kept_val _ (fun _ => rfl) (fun ρ w hw => by go_simp; first | done | with_reducible rfl) ?_
          simp only [Act.put, List.setIfInBounds_toArray, List.set_cons_zero, List.set_cons_succ, Nat.reduceAdd]
          refine kept_val _ (fun _ => rfl) (fun ρ w hw => by go_simp; first | done | with_reducible rfl) ?_
          simp only [Act.put, List.setIfInBounds_toArray, List.set_cons_zero, List.set_cons_succ, Nat.reduceAdd]
          refine kept_val _ (fun _ => rfl) (fun ρ w hw => by go_simp; first | done | with_reducible rfl) ?_
          simp only [Act.put, List.setIfInBounds_toArray, List.set_cons_zero, List.set_cons_succ, Nat.reduceAdd]
          refine kept_val _ (fun _ => rfl) (fun ρ w hw => by go_simp; first | done | with_reducible rfl) ?_
          simp only [Act.put, List.setIfInBounds_toArray, List.set_cons_zero, List.set_cons_succ, Nat.reduceAdd]
          refine kept_val _ (fun _ => rfl) (fun ρ w hw => by go_simp; first | done | with_reducible rfl) ?_
          simp only [Act.put, List.setIfInBounds_toArray, List.set_cons_zero, List.set_cons_succ, Nat.reduceAdd]
          refine kept_val _ (fun _ => rfl) (fun ρ w hw => by go_simp; first | done | with_reducible rfl) ?_
          simp only [Act.put, List.setIfInBounds_toArray, List.set_cons_zero, List.set_cons_succ, Nat.reduceAdd]
          refine kept_val _ (fun _ => rfl) (fun ρ w hw => by go_simp; first | done | with_reducible rfl) ?_
          simp only [Act.put, List.setIfInBounds_toArray, List.set_cons_zero, List.set_cons_succ, Nat.reduceAdd]
          refine kept_val _ (fun _ => rfl) (fun ρ w hw => by go_simp; first | done | with_reducible rfl) ?_
          simp only [Act.put, List.setIfInBounds_toArray, List.set_cons_zero, List.set_cons_succ, Nat.reduceAdd]
          refine kept_val _ (fun _ => rfl) (fun ρ w hw => by go_simp; first | done | with_reducible rfl) ?_
          simp only [Act.put, List.setIfInBounds_toArray, List.set_cons_zero, List.set_cons_succ, Nat.reduceAdd]
          refine kept_val _ (fun _ => rfl) (fun ρ w hw => by go_simp; first | done | with_reducible rfl) ?_
          simp only [Act.put, List.setIfInBounds_toArray, List.set_cons_zero, List.set_cons_succ, Nat.reduceAdd]
          refine kept_val _ (fun _ => rfl) (fun ρ w hw => by go_simp; first | done | with_reducible rfl) ?_
          simp only [Act.put, List.setIfInBounds_toArray, List.set_cons_zero, List.set_cons_succ, Nat.reduceAdd]
          refine kept_val _ (fun _ => rfl) (fun ρ w hw => by go_simp; first | done | with_reducible rfl) ?_
          simp only [Act.put, List.setIfInBounds_toArray, List.set_cons_zero, List.set_cons_succ, Nat.reduceAdd]
          refine kept_val _ (fun _ => rfl) (fun ρ w hw => by go_simp; first | done | with_reducible rfl) ?_
          simp only [Act.put, List.setIfInBounds_toArray, List.set_cons_zero, List.set_cons_succ, Nat.reduceAdd]
          refine kept_val _ (fun _ => rfl) (fun ρ w hw => by go_simp; first | done | with_reducible rfl) ?_
          simp only [Act.put, List.setIfInBounds_toArray, List.set_cons_zero, List.set_cons_succ, Nat.reduceAdd]
          refine kept_val _ (fun _ => rfl) (fun ρ w hw => by go_simp; first | done | with_reducible rfl) ?_
          simp only [Act.put, List.setIfInBounds_toArray, List.set_cons_zero, List.set_cons_succ, Nat.reduceAdd]
          refine kept_val _ (fun _ => rfl) (fun ρ w hw => by go_simp; first | done | with_reducible rfl) ?_
          simp only [Act.put, List.setIfInBounds_toArray, List.set_cons_zero, List.set_cons_succ, Nat.reduceAdd]
          refine kept_val _ (fun _ => rfl) (fun ρ w hw => by go_simp; first | done | with_reducible rfl) ?_
          simp only [Act.put, List.setIfInBounds_toArray, List.set_cons_zero, List.set_cons_succ, Nat.reduceAdd]
          refine kept_val _ (fun _ => rfl) (fun ρ w hw => by go_simp; first | done | with_reducible rfl) ?_
          simp only [Act.put, List.setIfInBounds_toArray, List.set_cons_zero, List.set_cons_succ, Nat.reduceAdd]
          refine kept_val _ (fun _ => rfl) (fun ρ w hw => by have q0 := (x11.below hw).c0; have q1 := (x11.below hw).c1; go_simp; first | done | with_reducible rfl) ?_
          simp only [Act.put, List.setIfInBounds_toArray, List.set_cons_zero, List.set_cons_succ, Nat.reduceAdd]
          refine kept_val _ (fun _ => rfl) (fun ρ w hw => by have q0 := (x13.below hw).c0; have q1 := (x13.below hw).c1; go_simp; first | done | with_reducible rfl) ?_
          simp only [Act.put, List.setIfInBounds_toArray, List.set_cons_zero, List.set_cons_succ, Nat.reduceAdd]
          refine kept_call _ _ _ (fun _ => rfl) (fun ρ w hw => by go_simp; first | done | with_reducible rfl) (fun w hw => cM.of hG (bto hb hw)) ?_
          simp only [Act.put, List.setIfInBounds_toArray, List.set_cons_zero, List.set_cons_succ, Nat.reduceAdd]
          refine kept_val _ (fun _ => rfl) (fun ρ w hw => by have q0 := (x15.below hw).c0; have q1 := (x15.below hw).c1; go_simp; first | done | with_reducible rfl) ?_
          simp only [Act.put, List.setIfInBounds_toArray, List.set_cons_zero, List.set_cons_succ, Nat.reduceAdd]
          refine kept_val _ (fun _ => rfl) (fun ρ w hw => by go_simp; first | done | with_reducible rfl) ?_
          simp only [Act.put, List.setIfInBounds_toArray, List.set_cons_zero, List.set_cons_succ, Nat.reduceAdd]
          refine kept_val _ (fun _ => rfl) (fun ρ w hw => by go_simp; first | done | with_reducible rfl) ?_
          simp only [Act.put, List.setIfInBounds_toArray, List.set_cons_zero, List.set_cons_succ, Nat.reduceAdd]
          refine kept_val _ (fun _ => rfl) (fun ρ w hw => by go_simp; first | done | with_reducible rfl) ?_
          simp only [Act.put, List.setIfInBounds_toArray, List.set_cons_zero, List.set_cons_succ, Nat.reduceAdd]
          refine kept_val _ (fun _ => rfl) (fun ρ w hw => by have q0 := (x17.below hw).c0; have q1 := (x17.below hw).c1; go_simp; first | done | with_reducible rfl) ?_
          simp only [Act.put, List.setIfInBounds_toArray, List.set_cons_zero, List.set_cons_succ, Nat.reduceAdd]
          refine kept_call _ _ _ (fun _ => rfl) (fun ρ w hw => by go_simp; first | done | with_reducible rfl) (fun w hw => cO.of hG (bto hb hw)) ?_
          simp only [Act.put, List.setIfInBounds_toArray, List.set_cons_zero, List.set_cons_succ, Nat.reduceAdd]
          refine kept_val _ (fun _ => rfl) (fun ρ w hw => by go_simp; first | done | with_reducible rfl) ?_
          simp only [Act.put, List.setIfInBounds_toArray, List.set_cons_zero, List.set_cons_succ, Nat.reduceAdd]
          refine kept_val _ (fun _ => rfl) (fun ρ w hw => by go_simp; first | done | with_reducible rfl) ?_
          simp only [Act.put, List.setIfInBounds_toArray, List.set_cons_zero, List.set_cons_succ, Nat.reduceAdd]
          refine kept_val _ (fun _ => rfl) (fun ρ w hw => by go_simp; first | done | with_reducible rfl) ?_
          simp only [Act.put, List.setIfInBounds_toArray, List.set_cons_zero, List.set_cons_succ, Nat.reduceAdd]
          refine kept_val _ (fun _ => rfl) (fun ρ w hw => by have q0 := (x19.below hw).c0; have q1 := (x19.below hw).c1; go_simp; first | done | with_reducible rfl) ?_
          simp only [Act.put, List.setIfInBounds_toArray, List.set_cons_zero, List.set_cons_succ, Nat.reduceAdd]
          refine kept_val _ (fun _ => rfl) (fun ρ w hw => by have q0 := (x3.below hw).c0; have q1 := (x3.below hw).c1; go_simp; first | done | with_reducible rfl) ?_
          simp only [Act.put, List.setIfInBounds_toArray, List.set_cons_zero, List.set_cons_succ, Nat.reduceAdd]
          refine kept_val _ (fun _ => rfl) (fun ρ w hw => by go_simp; first | done | with_reducible rfl) ?_
          simp only [Act.put, List.setIfInBounds_toArray, List.set_cons_zero, List.set_cons_succ, Nat.reduceAdd]
          refine kept_call _ _ _ (fun _ => rfl) (fun ρ w hw => by go_simp; first | done | with_reducible rfl) (fun w hw => cA.of hG (bto hb hw)) ?_
          simp only [Act.put, List.setIfInBounds_toArray, List.set_cons_zero, List.set_cons_succ, Nat.reduceAdd]
          refine kept_val _ (fun _ => rfl) (fun ρ w hw => by go_simp; first | done | with_reducible rfl) ?_
          simp only [Act.put, List.setIfInBounds_toArray, List.set_cons_zero, List.set_cons_succ, Nat.reduceAdd]
          refine kept_val _ (fun _ => rfl) (fun ρ w hw => by go_simp; first | done | with_reducible rfl) ?_
          simp only [Act.put, List.setIfInBounds_toArray, List.set_cons_zero, List.set_cons_succ, Nat.reduceAdd]
          refine kept_val _ (fun _ => rfl) (fun ρ w hw => by go_simp; first | done | with_reducible rfl) ?_
          simp only [Act.put, List.setIfInBounds_toArray, List.set_cons_zero, List.set_cons_succ, Nat.reduceAdd]
          refine kept_call _ _ _ (fun _ => rfl) (fun ρ w hw => by go_simp; first | done | with_reducible rfl) (fun w hw => cW.of hG (bto hb hw)) ?_
          simp only [Act.put, List.setIfInBounds_toArray, List.set_cons_zero, List.set_cons_succ, Nat.reduceAdd]
          refine kept_val _ (fun _ => rfl) (fun ρ w hw => by go_simp; first | done | with_reducible rfl) ?_
          simp only [Act.put, List.setIfInBounds_toArray, List.set_cons_zero, List.set_cons_succ, Nat.reduceAdd]
          refine kept_val _ (fun _ => rfl) (fun ρ w hw => by go_simp; first | done | with_reducible rfl) ?_
          simp only [Act.put, List.setIfInBounds_toArray, List.set_cons_zero, List.set_cons_succ, Nat.reduceAdd]
          refine kept_end (fun ρ w8 hF => ?_)
          replace x3 := x3.below hF.below
          replace x11 := x11.below hF.below
          replace x13 := x13.below hF.below
          replace x15 := x15.below hF.below
          replace x17 := x17.below hF.below
          replace x19 := x19.below hF.below
          replace hb := bto hb hF.below
          clear hF
          go_wp2
          go_ret
          exact ⟨rfl, hb⟩
    · have z0 : (z == 0) = false := by rw [beq_eq_false_iff_ne]; exact fun e => hq0 (HZ.out.1 e)
      have cI := HP.out i (by omega) (by omega) (.inr hq0)
      have cK := HP.out k (by omega) (by omega) (.inr hq0)
      have cS := HP.out (i + k) (by omega) (by omega) (.inr hq0)
      have cM := HM.out i k i1 i2 k1 k2 (.inr hq0)
      clear HZ HP HQ HM hq0
      have kw : IntKind.i64.wrap (i + k) = i + k := IntWalk.i64_in _ (by omega)
      generalize fN (q ^ i) = A0 at *
      generalize fD (q ^ i) = A1 at *
      generalize fN (q ^ k) = B0 at *
      generalize fD (q ^ k) = B1 at *
      generalize fN (q ^ (i + k)) = C0 at *
      generalize fD (q ^ (i + k)) = C1 at *
      generalize fN q = F0 at *
      generalize fD q = F1 at *
      have qx3a := x3.c0
      have qx3b := x3.c1
      go_wp2_with fail
      ((with_reducible refine (cI.of hG hb).mono ?_); rintro e w3 ⟨rfl, hb3⟩)
      clear qx3a qx3b
      replace x3 := x3.below hb3
      replace hb := bto hb hb3
      clear hb3
      replace x3 := x3.below (below_alloc w3 (.cells #[.string ⟨A0.toArray⟩, .string ⟨A1.toArray⟩] 24))
      have x11 := FBox.new w3 (.string ⟨A0.toArray⟩) (.string ⟨A1.toArray⟩) 24
      replace hb := bto hb (below_alloc w3 (.cells #[.string ⟨A0.toArray⟩, .string ⟨A1.toArray⟩] 24))
      have qx3a := x3.c0
      have qx3b := x3.c1
      go_wp2_with fail
      ((with_reducible refine (cK.of hG hb).mono ?_); rintro e w4 ⟨rfl, hb4⟩)
      clear qx3a qx3b
      replace x3 := x3.below hb4
      replace x11 := x11.below hb4
      replace hb := bto hb hb4
      clear hb4
      replace x3 := x3.below (below_alloc w4 (.cells #[.string ⟨B0.toArray⟩, .string ⟨B1.toArray⟩] 24))
      replace x11 := x11.below (below_alloc w4 (.cells #[.string ⟨B0.toArray⟩, .string ⟨B1.toArray⟩] 24))
      have x13 := FBox.new w4 (.string ⟨B0.toArray⟩) (.string ⟨B1.toArray⟩) 24
      replace hb := bto hb (below_alloc w4 (.cells #[.string ⟨B0.toArray⟩, .string ⟨B1.toArray⟩] 24))
      have qx3a := x3.c0
      have qx3b := x3.c1
      go_wp2_with fail
      ((with_reducible refine (cS.of hG hb).mono ?_); rintro e w5 ⟨rfl, hb5⟩)
      clear qx3a qx3b
      replace x3 := x3.below hb5
      replace x11 := x11.below hb5
      replace x13 := x13.below hb5
      replace hb := bto hb hb5
      clear hb5
      replace x3 := x3.below (below_alloc w5 (.cells #[.string ⟨C0.toArray⟩, .string ⟨C1.toArray⟩] 24))
      replace x11 := x11.below (below_alloc w5 (.cells #[.string ⟨C0.toArray⟩, .string ⟨C1.toArray⟩] 24))
      replace x13 := x13.below (below_alloc w5 (.cells #[.string ⟨C0.toArray⟩, .string ⟨C1.toArray⟩] 24))
      have x15 := FBox.new w5 (.string ⟨C0.toArray⟩) (.string ⟨C1.toArray⟩) 24
      replace hb := bto hb (below_alloc w5 (.cells #[.string ⟨C0.toArray⟩, .string ⟨C1.toArray⟩] 24))
      have qx3a := x3.c0
      have qx3b := x3.c1
      go_wp2_with fail
      ((with_reducible refine (c0.of hG hb).mono ?_); rintro e w6 ⟨rfl, hb6⟩)
      clear qx3a qx3b
      replace x3 := x3.below hb6
      replace x11 := x11.below hb6
      replace x13 := x13.below hb6
      replace x15 := x15.below hb6
      replace hb := bto hb hb6
      clear hb6
      replace x3 := x3.below (below_alloc w6 (.cells #[.string ⟨O0.toArray⟩, .string ⟨O1.toArray⟩] 24))
      replace x11 := x11.below (below_alloc w6 (.cells #[.string ⟨O0.toArray⟩, .string ⟨O1.toArray⟩] 24))
      replace x13 := x13.below (below_alloc w6 (.cells #[.string ⟨O0.toArray⟩, .string ⟨O1.toArray⟩] 24))
      replace x15 := x15.below (below_alloc w6 (.cells #[.string ⟨O0.toArray⟩, .string ⟨O1.toArray⟩] 24))
      have x17 := FBox.new w6 (.string ⟨O0.toArray⟩) (.string ⟨O1.toArray⟩) 24
      replace hb := bto hb (below_alloc w6 (.cells #[.string ⟨O0.toArray⟩, .string ⟨O1.toArray⟩] 24))
      have qx3a := x3.c0
      have qx3b := x3.c1
      go_wp2_with fail
      ((with_reducible refine (c01.of hG hb).mono ?_); rintro e w7 ⟨rfl, hb7⟩)
      clear qx3a qx3b
      replace x3 := x3.below hb7
      replace x11 := x11.below hb7
      replace x13 := x13.below hb7
      replace x15 := x15.below hb7
      replace x17 := x17.below hb7
      replace hb := bto hb hb7
      clear hb7
      replace x3 := x3.below (below_alloc w7 (.cells #[.string ⟨F0.toArray⟩, .string ⟨F1.toArray⟩] 24))
      replace x11 := x11.below (below_alloc w7 (.cells #[.string ⟨F0.toArray⟩, .string ⟨F1.toArray⟩] 24))
      replace x13 := x13.below (below_alloc w7 (.cells #[.string ⟨F0.toArray⟩, .string ⟨F1.toArray⟩] 24))
      replace x15 := x15.below (below_alloc w7 (.cells #[.string ⟨F0.toArray⟩, .string ⟨F1.toArray⟩] 24))
      replace x17 := x17.below (below_alloc w7 (.cells #[.string ⟨F0.toArray⟩, .string ⟨F1.toArray⟩] 24))
      have x19 := FBox.new w7 (.string ⟨F0.toArray⟩) (.string ⟨F1.toArray⟩) 24
      replace hb := bto hb (below_alloc w7 (.cells #[.string ⟨F0.toArray⟩, .string ⟨F1.toArray⟩] 24))
      go_wp2_with fail
      refine wp_region_kept (by kernel_rfl) (by kernel_rfl) ?_
      refine kept_val _ (fun _ => rfl) (fun ρ w hw => by go_simp; first | done | with_reducible rfl) ?_
      simp only [Act.put, List.setIfInBounds_toArray, List.set_cons_zero, List.set_cons_succ, Nat.reduceAdd]
      refine kept_val _ (fun _ => rfl) (fun ρ w hw => by go_simp; first | done | with_reducible rfl) ?_
      simp only [Act.put, List.setIfInBounds_toArray, List.set_cons_zero, List.set_cons_succ, Nat.reduceAdd]
      refine kept_val _ (fun _ => rfl) (fun ρ w hw => by go_simp; first | done | with_reducible rfl) ?_
      simp only [Act.put, List.setIfInBounds_toArray, List.set_cons_zero, List.set_cons_succ, Nat.reduceAdd]
      refine kept_val _ (fun _ => rfl) (fun ρ w hw => by go_simp; first | done | with_reducible rfl) ?_
      simp only [Act.put, List.setIfInBounds_toArray, List.set_cons_zero, List.set_cons_succ, Nat.reduceAdd]
      refine kept_val _ (fun _ => rfl) (fun ρ w hw => by go_simp; first | done | with_reducible rfl) ?_
      simp only [Act.put, List.setIfInBounds_toArray, List.set_cons_zero, List.set_cons_succ, Nat.reduceAdd]
      refine kept_val _ (fun _ => rfl) (fun ρ w hw => by go_simp; first | done | with_reducible rfl) ?_
      simp only [Act.put, List.setIfInBounds_toArray, List.set_cons_zero, List.set_cons_succ, Nat.reduceAdd]
      refine kept_val _ (fun _ => rfl) (fun ρ w hw => by go_simp; first | done | with_reducible rfl) ?_
      simp only [Act.put, List.setIfInBounds_toArray, List.set_cons_zero, List.set_cons_succ, Nat.reduceAdd]
      refine kept_val _ (fun _ => rfl) (fun ρ w hw => by go_simp; first | done | with_reducible rfl) ?_
      simp only [Act.put, List.setIfInBounds_toArray, List.set_cons_zero, List.set_cons_succ, Nat.reduceAdd]
      refine kept_val _ (fun _ => rfl) (fun ρ w hw => by go_simp; first | done | with_reducible rfl) ?_
      simp only [Act.put, List.setIfInBounds_toArray, List.set_cons_zero, List.set_cons_succ, Nat.reduceAdd]
      refine kept_val _ (fun _ => rfl) (fun ρ w hw => by go_simp; first | done | with_reducible rfl) ?_
      simp only [Act.put, List.setIfInBounds_toArray, List.set_cons_zero, List.set_cons_succ, Nat.reduceAdd]
      refine kept_val _ (fun _ => rfl) (fun ρ w hw => by go_simp; first | done | with_reducible rfl) ?_
      simp only [Act.put, List.setIfInBounds_toArray, List.set_cons_zero, List.set_cons_succ, Nat.reduceAdd]
      refine kept_val _ (fun _ => rfl) (fun ρ w hw => by go_simp; first | done | with_reducible rfl) ?_
      simp only [Act.put, List.setIfInBounds_toArray, List.set_cons_zero, List.set_cons_succ, Nat.reduceAdd]
      refine kept_val _ (fun _ => rfl) (fun ρ w hw => by go_simp; first | done | with_reducible rfl) ?_
      simp only [Act.put, List.setIfInBounds_toArray, List.set_cons_zero, List.set_cons_succ, Nat.reduceAdd]
      refine kept_val _ (fun _ => rfl) (fun ρ w hw => by go_simp; first | done | with_reducible rfl) ?_
      simp only [Act.put, List.setIfInBounds_toArray, List.set_cons_zero, List.set_cons_succ, Nat.reduceAdd]
      refine kept_val _ (fun _ => rfl) (fun ρ w hw => by go_simp; first | done | with_reducible rfl) ?_
      simp only [Act.put, List.setIfInBounds_toArray, List.set_cons_zero, List.set_cons_succ, Nat.reduceAdd]
      refine kept_val _ (fun _ => rfl) (fun ρ w hw => by go_simp; first | done | with_reducible rfl) ?_
      simp only [Act.put, List.setIfInBounds_toArray, List.set_cons_zero, List.set_cons_succ, Nat.reduceAdd]
      refine kept_val _ (fun _ => rfl) (fun ρ w hw => by go_simp; first | done | with_reducible rfl) ?_
      simp only [Act.put, List.setIfInBounds_toArray, List.set_cons_zero, List.set_cons_succ, Nat.reduceAdd]
      refine kept_val _ (fun _ => rfl) (fun ρ w hw => by go_simp; first | done | with_reducible rfl) ?_
      simp only [Act.put, List.setIfInBounds_toArray, List.set_cons_zero, List.set_cons_succ, Nat.reduceAdd]
      refine kept_val _ (fun _ => rfl) (fun ρ w hw => by go_simp; first | done | with_reducible rfl) ?_
      simp only [Act.put, List.setIfInBounds_toArray, List.set_cons_zero, List.set_cons_succ, Nat.reduceAdd]
      refine kept_val _ (fun _ => rfl) (fun ρ w hw => by have q0 := (x11.below hw).c0; have q1 := (x11.below hw).c1; go_simp; first | done | with_reducible rfl) ?_
      simp only [Act.put, List.setIfInBounds_toArray, List.set_cons_zero, List.set_cons_succ, Nat.reduceAdd]
      refine kept_val _ (fun _ => rfl) (fun ρ w hw => by have q0 := (x13.below hw).c0; have q1 := (x13.below hw).c1; go_simp; first | done | with_reducible rfl) ?_
      simp only [Act.put, List.setIfInBounds_toArray, List.set_cons_zero, List.set_cons_succ, Nat.reduceAdd]
      refine kept_call _ _ _ (fun _ => rfl) (fun ρ w hw => by go_simp; first | done | with_reducible rfl) (fun w hw => cM.of hG (bto hb hw)) ?_
      simp only [Act.put, List.setIfInBounds_toArray, List.set_cons_zero, List.set_cons_succ, Nat.reduceAdd]
      refine kept_val _ (fun _ => rfl) (fun ρ w hw => by have q0 := (x15.below hw).c0; have q1 := (x15.below hw).c1; go_simp; first | done | with_reducible rfl) ?_
      simp only [Act.put, List.setIfInBounds_toArray, List.set_cons_zero, List.set_cons_succ, Nat.reduceAdd]
      refine kept_val _ (fun _ => rfl) (fun ρ w hw => by go_simp; first | done | with_reducible rfl) ?_
      simp only [Act.put, List.setIfInBounds_toArray, List.set_cons_zero, List.set_cons_succ, Nat.reduceAdd]
      refine kept_val _ (fun _ => rfl) (fun ρ w hw => by go_simp; first | done | with_reducible rfl) ?_
      simp only [Act.put, List.setIfInBounds_toArray, List.set_cons_zero, List.set_cons_succ, Nat.reduceAdd]
      refine kept_val _ (fun _ => rfl) (fun ρ w hw => by go_simp; first | done | with_reducible rfl) ?_
      simp only [Act.put, List.setIfInBounds_toArray, List.set_cons_zero, List.set_cons_succ, Nat.reduceAdd]
      refine kept_val _ (fun _ => rfl) (fun ρ w hw => by have q0 := (x17.below hw).c0; have q1 := (x17.below hw).c1; go_simp; first | done | with_reducible rfl) ?_
      simp only [Act.put, List.setIfInBounds_toArray, List.set_cons_zero, List.set_cons_succ, Nat.reduceAdd]
      refine kept_call _ _ _ (fun _ => rfl) (fun ρ w hw => by go_simp; first | done | with_reducible rfl) (fun w hw => cO.of hG (bto hb hw)) ?_
      simp only [Act.put, List.setIfInBounds_toArray, List.set_cons_zero, List.set_cons_succ, Nat.reduceAdd]
      refine kept_val _ (fun _ => rfl) (fun ρ w hw => by go_simp; first | done | with_reducible rfl) ?_
      simp only [Act.put, List.setIfInBounds_toArray, List.set_cons_zero, List.set_cons_succ, Nat.reduceAdd]
      refine kept_val _ (fun _ => rfl) (fun ρ w hw => by go_simp; first | done | with_reducible rfl) ?_
      simp only [Act.put, List.setIfInBounds_toArray, List.set_cons_zero, List.set_cons_succ, Nat.reduceAdd]
      refine kept_val _ (fun _ => rfl) (fun ρ w hw => by go_simp; first | done | with_reducible rfl) ?_
      simp only [Act.put, List.setIfInBounds_toArray, List.set_cons_zero, List.set_cons_succ, Nat.reduceAdd]
      refine kept_val _ (fun _ => rfl) (fun ρ w hw => by have q0 := (x19.below hw).c0; have q1 := (x19.below hw).c1; go_simp; first | done | with_reducible rfl) ?_
      simp only [Act.put, List.setIfInBounds_toArray, List.set_cons_zero, List.set_cons_succ, Nat.reduceAdd]
      refine kept_val _ (fun _ => rfl) (fun ρ w hw => by have q0 := (x3.below hw).c0; have q1 := (x3.below hw).c1; go_simp; first | done | with_reducible rfl) ?_
      simp only [Act.put, List.setIfInBounds_toArray, List.set_cons_zero, List.set_cons_succ, Nat.reduceAdd]
      refine kept_val _ (fun _ => rfl) (fun ρ w hw => by go_simp; first | done | with_reducible rfl) ?_
      simp only [Act.put, List.setIfInBounds_toArray, List.set_cons_zero, List.set_cons_succ, Nat.reduceAdd]
      refine kept_call _ _ _ (fun _ => rfl) (fun ρ w hw => by go_simp; first | done | with_reducible rfl) (fun w hw => cA.of hG (bto hb hw)) ?_
      simp only [Act.put, List.setIfInBounds_toArray, List.set_cons_zero, List.set_cons_succ, Nat.reduceAdd]
      refine kept_val _ (fun _ => rfl) (fun ρ w hw => by go_simp; first | done | with_reducible rfl) ?_
      simp only [Act.put, List.setIfInBounds_toArray, List.set_cons_zero, List.set_cons_succ, Nat.reduceAdd]
      refine kept_val _ (fun _ => rfl) (fun ρ w hw => by go_simp; first | done | with_reducible rfl) ?_
      simp only [Act.put, List.setIfInBounds_toArray, List.set_cons_zero, List.set_cons_succ, Nat.reduceAdd]
      refine kept_val _ (fun _ => rfl) (fun ρ w hw => by go_simp; first | done | with_reducible rfl) ?_
      simp only [Act.put, List.setIfInBounds_toArray, List.set_cons_zero, List.set_cons_succ, Nat.reduceAdd]
      refine kept_call _ _ _ (fun _ => rfl) (fun ρ w hw => by go_simp; first | done | with_reducible rfl) (fun w hw => cW.of hG (bto hb hw)) ?_
      simp only [Act.put, List.setIfInBounds_toArray, List.set_cons_zero, List.set_cons_succ, Nat.reduceAdd]
      refine kept_val _ (fun _ => rfl) (fun ρ w hw => by go_simp; first | done | with_reducible rfl) ?_
      simp only [Act.put, List.setIfInBounds_toArray, List.set_cons_zero, List.set_cons_succ, Nat.reduceAdd]
      refine kept_val _ (fun _ => rfl) (fun ρ w hw => by go_simp; first | done | with_reducible rfl) ?_
      simp only [Act.put, List.setIfInBounds_toArray, List.set_cons_zero, List.set_cons_succ, Nat.reduceAdd]
      refine kept_end (fun ρ w8 hF => ?_)
      replace x3 := x3.below hF.below
      replace x11 := x11.below hF.below
      replace x13 := x13.below hF.below
      replace x15 := x15.below hF.below
      replace x17 := x17.below hF.below
      replace x19 := x19.below hF.below
      replace hb := bto hb hF.below
      clear hF
      go_wp2
      go_ret
      exact ⟨rfl, hb⟩
end Go.Proofs.YtjhafnnfkaejgaaGreatDoor
