/- FractionTexts. -/
import Derived.Test.YtdbmjbcgcajojaaGreatDoorCd
import Derived.Deep.DeepCutAuto
import Derived.IntWalk
namespace Go.Proofs.YtdbmjbcgcajojaaGreatDoor
open Go.RowKit Num

theorem tmod13 (n : Int) : (n.tmod 13).natAbs ≤ 12 := by
  have h1 := Int.tmod_lt_of_pos n (b := 13) (by decide)
  have h2 := Int.lt_tmod_of_pos n (b := 13) (by decide)
  omega
def exOf (n : Int) : Int := if (n < -12 ∨ 12 < n) ∧ -400 ≤ n ∧ n ≤ 400 then n.tmod 13 else n
theorem exOf_ok (n : Int) : (exOf n).natAbs ≤ 12 ∨ exOf n < -400 ∨ 400 < exOf n := by
  unfold exOf; split
  · exact .inl (tmod13 n)
  · omega
theorem exOf_t {n : Int} (h1 : n < -12 ∨ 12 < n) (h2 : -400 ≤ n) (h3 : n ≤ 400) : n.tmod 13 = exOf n := by unfold exOf; rw [if_pos ⟨h1, h2, h3⟩]
theorem exOf_f {n : Int} (h : ¬ ((n < -12 ∨ 12 < n) ∧ -400 ≤ n ∧ n ≤ 400)) : n = exOf n := by unfold exOf; rw [if_neg h]
theorem parse_both {s : List UInt8} (hs : s.length ≤ 1000 ∨ 65536 < s.length) : ∃ (N D : List UInt8) (c : Int), Ret 40 #[.string ⟨s.toArray⟩] (.tuple #[.agg #[.string ⟨N.toArray⟩, .string ⟨D.toArray⟩], .int .i64 c]) ∧
    Ret 41 #[.string ⟨s.toArray⟩] (.tuple #[.agg #[.string ⟨N.toArray⟩, .string ⟨D.toArray⟩], .int .i64 c]) := by
  rcases hs with h | h
  · exact sParse h (by decide)
  · exact ⟨[], [], 4, fun w _ => fparse_long s w h, sParse_long h⟩

set_option maxHeartbeats 4000000 in
set_option maxRecDepth 100000 in
theorem texts_law (l l' : List UInt8) (n : Int) (s : List UInt8) (w : World) (hG : Glob w) :
    Calls Tryz.prog 5 #[(Value.agg #[Value.string ⟨List.toArray l⟩, Value.string ⟨List.toArray l'⟩]), .int .i64 n, .string ⟨s.toArray⟩] w fun e w' => e = .returned (.bool true) ∧ Below w.heap.size w w' := by
  have cW := rAwake
  go_enter Tryz.func5, Tryz.ntmps5
  go_wp2_with fail
  ((with_reducible refine (long_any _ 1 1 (fun i => [l, l'].getD i []) _ (by decide) ?_).mono ?_))
  · intro i hi
    have hi : i = 0 ∨ i = 1 := by omega
    rcases hi with rfl | rfl <;> simp [go_sem]
  rintro e w1 ⟨hres, hb1⟩
  have x3 : FBox w1 (w.heap.size) (.string ⟨l.toArray⟩) (.string ⟨l'.toArray⟩) := FBox.below ⟨by simp [go_sem], by simp [go_sem], by simp [go_sem], by simp [go_sem], by first | (simp; done) | (simp; omega)⟩ hb1
  have hb : Below w.heap.size w w1 := bto (bto (below_alloc _ _) (below_alloc _ _)) hb1
  clear hb1
  rcases hres with ⟨rfl, -⟩ | ⟨rfl, hlen⟩
  · go_wp2_with fail
    ((with_reducible refine (cW.of hG hb).mono ?_); rintro e w2 ⟨rfl, hb2⟩)
    go_wp2
    go_ret
    exact ⟨rfl, bto hb hb2⟩
  · have h0 : l.length ≤ 13 := hlen 0 (by decide)
    have h1 : l'.length ≤ 13 := hlen 1 (by decide)
    clear hlen
    by_cases hA : 130 < s.length ∧ s.length ≤ 65536
    · have k0 : decide (130 < s.length) = true := decide_eq_true hA.1
      have k1 : decide (s.length ≤ 65536) = true := decide_eq_true hA.2
      have k2 := hA.1
      have k3 := hA.2
      clear hA
      go_wp2_with fail
      ((with_reducible refine (cW.of hG hb).mono ?_); rintro e w2 ⟨rfl, hb2⟩)
      go_wp2
      go_ret
      exact ⟨rfl, bto hb hb2⟩
    by_cases hB : 65546 < s.length
    · have k0 : decide (130 < s.length) = true := decide_eq_true (by omega)
      have k1 : decide (s.length ≤ 65536) = false := decide_eq_false (by omega)
      have k2 : decide (65546 < s.length) = true := decide_eq_true hB
      clear hA
      go_wp2_with fail
      ((with_reducible refine (cW.of hG hb).mono ?_); rintro e w2 ⟨rfl, hb2⟩)
      go_wp2
      go_ret
      exact ⟨rfl, bto hb hb2⟩
    obtain ⟨P0, P1, pc, c5, c6⟩ := parse_both (s := s) (by omega)
    obtain ⟨_, c1, c2, R0, R1, rc, rfl⟩ := pow_both (l := l) (l' := l') (K := 13) (m := 12) h0 h1 (by decide) (by decide) (by decide) (exOf n) (exOf_ok n)
    have bF : Bd 13 (fv l l') := bd_fv h0 h1 (by decide)
    have bl := bd_len bF
    have c7 := rPrint (isq_raw h0 h1 (by decide))
    have c8 := sPrint (l := l) (l' := l') (q := fv l l') (by omega) (by omega) (by omega) (by omega) rfl
    have HT := Lib.hid (fun h1 h2 h3 => exOf_t (n := n) h1 h2 h3)
    have HF := Lib.hid (fun h => exOf_f (n := n) h)
    generalize printQ (fv l l') = T at *
    generalize exOf n = m at *
    clear bF bl h0 h1
    by_cases hS : 130 < s.length
    · have k0 : decide (130 < s.length) = true := decide_eq_true hS
      have k1 : decide (s.length ≤ 65536) = false := decide_eq_false (by omega)
      have k2 : decide (65546 < s.length) = false := decide_eq_false hB
      have k3 : ¬ s.length ≤ 65536 := by omega
      clear hA
      go_upto_region 3 with fail
      go_cut [47] from 34 to 47 (fun s47 wx => s47 = .bool (decide ((n < -12 ∨ 12 < n) ∧ -400 ≤ n ∧ n ≤ 400)) ∧ wx = w1)
      case first =>
        clear HT HF
        by_cases g1 : n < -12
        · have d1 : decide (n < -12) = true := decide_eq_true g1
          by_cases g3 : -400 ≤ n
          · have d3 : decide (-400 ≤ n) = true := decide_eq_true g3
            have d4 : decide (n ≤ 400) = true := decide_eq_true (by omega)
            have d5 : n ≤ 400 := by omega
            go_wp2
            go_meet
            case rel => exact ⟨congrArg Value.bool (decide_eq_true (by omega)).symm, rfl⟩
          · have d3 : decide (-400 ≤ n) = false := decide_eq_false g3
            go_wp2
            go_meet
            case rel => exact ⟨congrArg Value.bool (decide_eq_false (by omega)).symm, rfl⟩
        · have d1 : decide (n < -12) = false := decide_eq_false g1
          by_cases g2 : 12 < n
          · have d2 : decide (12 < n) = true := decide_eq_true g2
            have d3 : decide (-400 ≤ n) = true := decide_eq_true (by omega)
            have d6 : -400 ≤ n := by omega
            by_cases g4 : n ≤ 400
            · have d4 : decide (n ≤ 400) = true := decide_eq_true g4
              go_wp2
              go_meet
              case rel => exact ⟨congrArg Value.bool (decide_eq_true (by omega)).symm, rfl⟩
            · have d4 : decide (n ≤ 400) = false := decide_eq_false g4
              go_wp2
              go_meet
              case rel => exact ⟨congrArg Value.bool (decide_eq_false (by omega)).symm, rfl⟩
          · have d2 : decide (12 < n) = false := decide_eq_false g2
            go_wp2
            go_meet
            case rel => exact ⟨congrArg Value.bool (decide_eq_false (by omega)).symm, rfl⟩
      case rest =>
        obtain ⟨rfl, rfl⟩ := hcut
        obtain ⟨bad, hbad⟩ : ∃ b, decide ((n < -12 ∨ 12 < n) ∧ -400 ≤ n ∧ n ≤ 400) = b := ⟨_, rfl⟩
        rw [hbad]
        have HB := Lib.hid hbad
        clear hbad
        go_upto_if 47 with fail
        go_cut [1] (fun s1 wx => s1 = .int .i64 m ∧ wx = wc)
        case first =>
          cases bad
          · have HE := Lib.hid (HF.out (of_decide_eq_false HB.out))
            clear HT HF HB
            go_wp2
            go_meet
            case rel => exact ⟨by rw [← HE.out], rfl⟩
          · have HQ := of_decide_eq_true HB.out
            have HE := Lib.hid (HT.out HQ.1 HQ.2.1 HQ.2.2)
            have d5 := HQ.2.1
            have d6 := HQ.2.2
            clear HT HF HB HQ
            go_wp2
            go_meet
            case rel => exact ⟨by rw [HE.out], rfl⟩
        case rest =>
          obtain ⟨rfl, rfl⟩ := hcut
          clear HT HF HB k0 k1 k2 k3 hS hB
          have qx3a := x3.c0
          have qx3b := x3.c1
          go_wp2_with fail
          ((with_reducible refine (c1.of hG hb).mono ?_); rintro e w2 ⟨rfl, hb2⟩)
          clear qx3a qx3b
          replace x3 := x3.below hb2
          replace hb := bto hb hb2
          clear hb2
          replace x3 := x3.below (below_alloc w2 (.cells #[.string ⟨R0.toArray⟩, .string ⟨R1.toArray⟩] 24))
          have x7 := FBox.new w2 (.string ⟨R0.toArray⟩) (.string ⟨R1.toArray⟩) 24
          replace hb := bto hb (below_alloc w2 (.cells #[.string ⟨R0.toArray⟩, .string ⟨R1.toArray⟩] 24))
          have qx3a := x3.c0
          have qx3b := x3.c1
          go_wp2_with fail
          ((with_reducible refine (c2.of hG hb).mono ?_); rintro e w3 ⟨rfl, hb3⟩)
          clear qx3a qx3b
          replace x3 := x3.below hb3
          replace x7 := x7.below hb3
          replace hb := bto hb hb3
          clear hb3
          replace x3 := x3.below (below_alloc w3 (.cells #[.string ⟨R0.toArray⟩, .string ⟨R1.toArray⟩] 24))
          replace x7 := x7.below (below_alloc w3 (.cells #[.string ⟨R0.toArray⟩, .string ⟨R1.toArray⟩] 24))
          have x9 := FBox.new w3 (.string ⟨R0.toArray⟩) (.string ⟨R1.toArray⟩) 24
          replace hb := bto hb (below_alloc w3 (.cells #[.string ⟨R0.toArray⟩, .string ⟨R1.toArray⟩] 24))
          go_wp2_with fail
          ((with_reducible refine (c5.of hG hb).mono ?_); rintro e w4 ⟨rfl, hb4⟩)
          replace x3 := x3.below hb4
          replace x7 := x7.below hb4
          replace x9 := x9.below hb4
          replace hb := bto hb hb4
          clear hb4
          replace x3 := x3.below (below_alloc w4 (.cells #[.string ⟨P0.toArray⟩, .string ⟨P1.toArray⟩] 24))
          replace x7 := x7.below (below_alloc w4 (.cells #[.string ⟨P0.toArray⟩, .string ⟨P1.toArray⟩] 24))
          replace x9 := x9.below (below_alloc w4 (.cells #[.string ⟨P0.toArray⟩, .string ⟨P1.toArray⟩] 24))
          have x11 := FBox.new w4 (.string ⟨P0.toArray⟩) (.string ⟨P1.toArray⟩) 24
          replace hb := bto hb (below_alloc w4 (.cells #[.string ⟨P0.toArray⟩, .string ⟨P1.toArray⟩] 24))
          go_wp2_with fail
          ((with_reducible refine (c6.of hG hb).mono ?_); rintro e w5 ⟨rfl, hb5⟩)
          replace x3 := x3.below hb5
          replace x7 := x7.below hb5
          replace x9 := x9.below hb5
          replace x11 := x11.below hb5
          replace hb := bto hb hb5
          clear hb5
          replace x3 := x3.below (below_alloc w5 (.cells #[.string ⟨P0.toArray⟩, .string ⟨P1.toArray⟩] 24))
          replace x7 := x7.below (below_alloc w5 (.cells #[.string ⟨P0.toArray⟩, .string ⟨P1.toArray⟩] 24))
          replace x9 := x9.below (below_alloc w5 (.cells #[.string ⟨P0.toArray⟩, .string ⟨P1.toArray⟩] 24))
          replace x11 := x11.below (below_alloc w5 (.cells #[.string ⟨P0.toArray⟩, .string ⟨P1.toArray⟩] 24))
          have x13 := FBox.new w5 (.string ⟨P0.toArray⟩) (.string ⟨P1.toArray⟩) 24
          replace hb := bto hb (below_alloc w5 (.cells #[.string ⟨P0.toArray⟩, .string ⟨P1.toArray⟩] 24))
          go_wp2_with fail
          refine wp_region_kept (by kernel_rfl) (by kernel_rfl) ?_
          refine kept_val _ (fun _ => rfl) (fun ρ w hw => by have q0 := (x7.below hw).c0; have q1 := (x7.below hw).c1; go_simp; first | done | with_reducible rfl) ?_
          simp only [Act.put, List.setIfInBounds_toArray, List.set_cons_zero, List.set_cons_succ, Nat.reduceAdd]
          refine kept_val _ (fun _ => rfl) (fun ρ w hw => by have q0 := (x9.below hw).c0; have q1 := (x9.below hw).c1; go_simp; first | done | with_reducible rfl) ?_
          simp only [Act.put, List.setIfInBounds_toArray, List.set_cons_zero, List.set_cons_succ, Nat.reduceAdd]
          refine kept_val _ (fun _ => rfl) (fun ρ w hw => by go_simp; first | done | with_reducible rfl) ?_
          simp only [Act.put, List.setIfInBounds_toArray, List.set_cons_zero, List.set_cons_succ, Nat.reduceAdd]
          refine kept_val _ (fun _ => rfl) (fun ρ w hw => by go_simp; first | done | with_reducible rfl) ?_
          simp only [Act.put, List.setIfInBounds_toArray, List.set_cons_zero, List.set_cons_succ, Nat.reduceAdd]
          refine kept_val _ (fun _ => rfl) (fun ρ w hw => by go_simp; first | done | with_reducible rfl) ?_
          simp only [Act.put, List.setIfInBounds_toArray, List.set_cons_zero, List.set_cons_succ, Nat.reduceAdd]
          refine kept_val _ (fun _ => rfl) (fun ρ w hw => by go_simp; first | done | with_reducible rfl) ?_
          simp only [Act.put, List.setIfInBounds_toArray, List.set_cons_zero, List.set_cons_succ, Nat.reduceAdd]
          refine kept_val _ (fun _ => rfl) (fun ρ w hw => by go_simp; first | done | with_reducible rfl) ?_
          simp only [Act.put, List.setIfInBounds_toArray, List.set_cons_zero, List.set_cons_succ, Nat.reduceAdd]
          refine kept_val _ (fun _ => rfl) (fun ρ w hw => by go_simp; first | done | with_reducible rfl) ?_
          simp only [Act.put, List.setIfInBounds_toArray, List.set_cons_zero, List.set_cons_succ, Nat.reduceAdd]
          refine kept_val _ (fun _ => rfl) (fun ρ w hw => by go_simp; first | done | with_reducible rfl) ?_
          simp only [Act.put, List.setIfInBounds_toArray, List.set_cons_zero, List.set_cons_succ, Nat.reduceAdd]
          refine kept_val _ (fun _ => rfl) (fun ρ w hw => by have q0 := (x3.below hw).c0; have q1 := (x3.below hw).c1; go_simp; first | done | with_reducible rfl) ?_
          simp only [Act.put, List.setIfInBounds_toArray, List.set_cons_zero, List.set_cons_succ, Nat.reduceAdd]
          refine kept_call _ _ _ (fun _ => rfl) (fun ρ w hw => by go_simp; first | done | with_reducible rfl) (fun w hw => c7.of hG (bto hb hw)) ?_
          simp only [Act.put, List.setIfInBounds_toArray, List.set_cons_zero, List.set_cons_succ, Nat.reduceAdd]
          refine kept_val _ (fun _ => rfl) (fun ρ w hw => by have q0 := (x3.below hw).c0; have q1 := (x3.below hw).c1; go_simp; first | done | with_reducible rfl) ?_
          simp only [Act.put, List.setIfInBounds_toArray, List.set_cons_zero, List.set_cons_succ, Nat.reduceAdd]
          refine kept_call _ _ _ (fun _ => rfl) (fun ρ w hw => by go_simp; first | done | with_reducible rfl) (fun w hw => c8.of hG (bto hb hw)) ?_
          simp only [Act.put, List.setIfInBounds_toArray, List.set_cons_zero, List.set_cons_succ, Nat.reduceAdd]
          refine kept_val _ (fun _ => rfl) (fun ρ w hw => by go_simp; first | done | with_reducible rfl) ?_
          simp only [Act.put, List.setIfInBounds_toArray, List.set_cons_zero, List.set_cons_succ, Nat.reduceAdd]
          refine kept_val _ (fun _ => rfl) (fun ρ w hw => by go_simp; first | done | with_reducible rfl) ?_
          simp only [Act.put, List.setIfInBounds_toArray, List.set_cons_zero, List.set_cons_succ, Nat.reduceAdd]
          refine kept_val _ (fun _ => rfl) (fun ρ w hw => by go_simp; first | done | with_reducible rfl) ?_
          simp only [Act.put, List.setIfInBounds_toArray, List.set_cons_zero, List.set_cons_succ, Nat.reduceAdd]
          refine kept_val _ (fun _ => rfl) (fun ρ w hw => by have q0 := (x11.below hw).c0; have q1 := (x11.below hw).c1; go_simp; first | done | with_reducible rfl) ?_
          simp only [Act.put, List.setIfInBounds_toArray, List.set_cons_zero, List.set_cons_succ, Nat.reduceAdd]
          refine kept_val _ (fun _ => rfl) (fun ρ w hw => by have q0 := (x13.below hw).c0; have q1 := (x13.below hw).c1; go_simp; first | done | with_reducible rfl) ?_
          simp only [Act.put, List.setIfInBounds_toArray, List.set_cons_zero, List.set_cons_succ, Nat.reduceAdd]
          refine kept_val _ (fun _ => rfl) (fun ρ w hw => by go_simp; first | done | with_reducible rfl) ?_
          simp only [Act.put, List.setIfInBounds_toArray, List.set_cons_zero, List.set_cons_succ, Nat.reduceAdd]
          refine kept_val _ (fun _ => rfl) (fun ρ w hw => by go_simp; first | done | with_reducible rfl) ?_
          simp only [Act.put, List.setIfInBounds_toArray, List.set_cons_zero, List.set_cons_succ, Nat.reduceAdd]
          refine kept_val _ (fun _ => rfl) (fun ρ w hw => by go_simp; first | done | with_reducible rfl) ?_
          simp only [Act.put, List.setIfInBounds_toArray, List.set_cons_zero, List.set_cons_succ, Nat.reduceAdd]
          refine kept_val _ (fun _ => rfl) (fun ρ w hw => by go_simp; first | done | with_reducible rfl) ?_
          simp only [Act.put, List.setIfInBounds_toArray, List.set_cons_zero, List.set_cons_succ, Nat.reduceAdd]
          refine kept_val _ (fun _ => rfl) (fun ρ w hw => by go_simp; first | done | with_reducible rfl) ?_
          simp only [Act.put, List.setIfInBounds_toArray, List.set_cons_zero, List.set_cons_succ, Nat.reduceAdd]
          refine kept_val _ (fun _ => rfl) (fun ρ w hw => by go_simp; first | done | with_reducible rfl) ?_
          simp only [Act.put, List.setIfInBounds_toArray, List.set_cons_zero, List.set_cons_succ, Nat.reduceAdd]
          refine kept_val _ (fun _ => rfl) (fun ρ w hw => by go_simp; first | done | with_reducible rfl) ?_
          simp only [Act.put, List.setIfInBounds_toArray, List.set_cons_zero, List.set_cons_succ, Nat.reduceAdd]
          refine kept_val _ (fun _ => rfl) (fun ρ w hw => by go_simp; first | done | with_reducible rfl) ?_
          simp only [Act.put, List.setIfInBounds_toArray, List.set_cons_zero, List.set_cons_succ, Nat.reduceAdd]
          refine kept_call _ _ _ (fun _ => rfl) (fun ρ w hw => by go_simp; first | done | with_reducible rfl) (fun w hw => cW.of hG (bto hb hw)) ?_
          simp only [Act.put, List.setIfInBounds_toArray, List.set_cons_zero, List.set_cons_succ, Nat.reduceAdd]
          refine kept_val _ (fun _ => rfl) (fun ρ w hw => by go_simp; first | done | with_reducible rfl) ?_
          simp only [Act.put, List.setIfInBounds_toArray, List.set_cons_zero, List.set_cons_succ, Nat.reduceAdd]
          refine kept_val _ (fun _ => rfl) (fun ρ w hw => by go_simp; first | done | with_reducible rfl) ?_
          simp only [Act.put, List.setIfInBounds_toArray, List.set_cons_zero, List.set_cons_succ, Nat.reduceAdd]
          refine kept_end (fun ρ w6 hF => ?_)
          replace x3 := x3.below hF.below
          replace x7 := x7.below hF.below
          replace x9 := x9.below hF.below
          replace x11 := x11.below hF.below
          replace x13 := x13.below hF.below
          replace hb := bto hb hF.below
          clear hF
          go_wp2
          go_ret
          exact ⟨rfl, hb⟩
    · have k0 : decide (130 < s.length) = false := decide_eq_false hS
      have k2 : decide (65546 < s.length) = false := decide_eq_false hB
      clear hA
      go_upto_region 3 with fail
      go_cut [47] from 34 to 47 (fun s47 wx => s47 = .bool (decide ((n < -12 ∨ 12 < n) ∧ -400 ≤ n ∧ n ≤ 400)) ∧ wx = w1)
      case first =>
        clear HT HF
        by_cases g1 : n < -12
        · have d1 : decide (n < -12) = true := decide_eq_true g1
          by_cases g3 : -400 ≤ n
          · have d3 : decide (-400 ≤ n) = true := decide_eq_true g3
            have d4 : decide (n ≤ 400) = true := decide_eq_true (by omega)
            have d5 : n ≤ 400 := by omega
            go_wp2
            go_meet
            case rel => exact ⟨congrArg Value.bool (decide_eq_true (by omega)).symm, rfl⟩
          · have d3 : decide (-400 ≤ n) = false := decide_eq_false g3
            go_wp2
            go_meet
            case rel => exact ⟨congrArg Value.bool (decide_eq_false (by omega)).symm, rfl⟩
        · have d1 : decide (n < -12) = false := decide_eq_false g1
          by_cases g2 : 12 < n
          · have d2 : decide (12 < n) = true := decide_eq_true g2
            have d3 : decide (-400 ≤ n) = true := decide_eq_true (by omega)
            have d6 : -400 ≤ n := by omega
            by_cases g4 : n ≤ 400
            · have d4 : decide (n ≤ 400) = true := decide_eq_true g4
              go_wp2
              go_meet
              case rel => exact ⟨congrArg Value.bool (decide_eq_true (by omega)).symm, rfl⟩
            · have d4 : decide (n ≤ 400) = false := decide_eq_false g4
              go_wp2
              go_meet
              case rel => exact ⟨congrArg Value.bool (decide_eq_false (by omega)).symm, rfl⟩
          · have d2 : decide (12 < n) = false := decide_eq_false g2
            go_wp2
            go_meet
            case rel => exact ⟨congrArg Value.bool (decide_eq_false (by omega)).symm, rfl⟩
      case rest =>
        obtain ⟨rfl, rfl⟩ := hcut
        obtain ⟨bad, hbad⟩ : ∃ b, decide ((n < -12 ∨ 12 < n) ∧ -400 ≤ n ∧ n ≤ 400) = b := ⟨_, rfl⟩
        rw [hbad]
        have HB := Lib.hid hbad
        clear hbad
        go_upto_if 47 with fail
        go_cut [1] (fun s1 wx => s1 = .int .i64 m ∧ wx = wc)
        case first =>
          cases bad
          · have HE := Lib.hid (HF.out (of_decide_eq_false HB.out))
            clear HT HF HB
            go_wp2
            go_meet
            case rel => exact ⟨by rw [← HE.out], rfl⟩
          · have HQ := of_decide_eq_true HB.out
            have HE := Lib.hid (HT.out HQ.1 HQ.2.1 HQ.2.2)
            have d5 := HQ.2.1
            have d6 := HQ.2.2
            clear HT HF HB HQ
            go_wp2
            go_meet
            case rel => exact ⟨by rw [HE.out], rfl⟩
        case rest =>
          obtain ⟨rfl, rfl⟩ := hcut
          clear HT HF HB k0 k2 hS hB
          have qx3a := x3.c0
          have qx3b := x3.c1
          go_wp2_with fail
          ((with_reducible refine (c1.of hG hb).mono ?_); rintro e w2 ⟨rfl, hb2⟩)
          clear qx3a qx3b
          replace x3 := x3.below hb2
          replace hb := bto hb hb2
          clear hb2
          replace x3 := x3.below (below_alloc w2 (.cells #[.string ⟨R0.toArray⟩, .string ⟨R1.toArray⟩] 24))
          have x7 := FBox.new w2 (.string ⟨R0.toArray⟩) (.string ⟨R1.toArray⟩) 24
          replace hb := bto hb (below_alloc w2 (.cells #[.string ⟨R0.toArray⟩, .string ⟨R1.toArray⟩] 24))
          have qx3a := x3.c0
          have qx3b := x3.c1
          go_wp2_with fail
          ((with_reducible refine (c2.of hG hb).mono ?_); rintro e w3 ⟨rfl, hb3⟩)
          clear qx3a qx3b
          replace x3 := x3.below hb3
          replace x7 := x7.below hb3
          replace hb := bto hb hb3
          clear hb3
          replace x3 := x3.below (below_alloc w3 (.cells #[.string ⟨R0.toArray⟩, .string ⟨R1.toArray⟩] 24))
          replace x7 := x7.below (below_alloc w3 (.cells #[.string ⟨R0.toArray⟩, .string ⟨R1.toArray⟩] 24))
          have x9 := FBox.new w3 (.string ⟨R0.toArray⟩) (.string ⟨R1.toArray⟩) 24
          replace hb := bto hb (below_alloc w3 (.cells #[.string ⟨R0.toArray⟩, .string ⟨R1.toArray⟩] 24))
          go_wp2_with fail
          ((with_reducible refine (c5.of hG hb).mono ?_); rintro e w4 ⟨rfl, hb4⟩)
          replace x3 := x3.below hb4
          replace x7 := x7.below hb4
          replace x9 := x9.below hb4
          replace hb := bto hb hb4
          clear hb4
          replace x3 := x3.below (below_alloc w4 (.cells #[.string ⟨P0.toArray⟩, .string ⟨P1.toArray⟩] 24))
          replace x7 := x7.below (below_alloc w4 (.cells #[.string ⟨P0.toArray⟩, .string ⟨P1.toArray⟩] 24))
          replace x9 := x9.below (below_alloc w4 (.cells #[.string ⟨P0.toArray⟩, .string ⟨P1.toArray⟩] 24))
          have x11 := FBox.new w4 (.string ⟨P0.toArray⟩) (.string ⟨P1.toArray⟩) 24
          replace hb := bto hb (below_alloc w4 (.cells #[.string ⟨P0.toArray⟩, .string ⟨P1.toArray⟩] 24))
          go_wp2_with fail
          ((with_reducible refine (c6.of hG hb).mono ?_); rintro e w5 ⟨rfl, hb5⟩)
          replace x3 := x3.below hb5
          replace x7 := x7.below hb5
          replace x9 := x9.below hb5
          replace x11 := x11.below hb5
          replace hb := bto hb hb5
          clear hb5
          replace x3 := x3.below (below_alloc w5 (.cells #[.string ⟨P0.toArray⟩, .string ⟨P1.toArray⟩] 24))
          replace x7 := x7.below (below_alloc w5 (.cells #[.string ⟨P0.toArray⟩, .string ⟨P1.toArray⟩] 24))
          replace x9 := x9.below (below_alloc w5 (.cells #[.string ⟨P0.toArray⟩, .string ⟨P1.toArray⟩] 24))
          replace x11 := x11.below (below_alloc w5 (.cells #[.string ⟨P0.toArray⟩, .string ⟨P1.toArray⟩] 24))
          have x13 := FBox.new w5 (.string ⟨P0.toArray⟩) (.string ⟨P1.toArray⟩) 24
          replace hb := bto hb (below_alloc w5 (.cells #[.string ⟨P0.toArray⟩, .string ⟨P1.toArray⟩] 24))
          go_wp2_with fail
          refine wp_region_kept (by kernel_rfl) (by kernel_rfl) ?_
          refine kept_val _ (fun _ => rfl) (fun ρ w hw => by have q0 := (x7.below hw).c0; have q1 := (x7.below hw).c1; go_simp; first | done | with_reducible rfl) ?_
          simp only [Act.put, List.setIfInBounds_toArray, List.set_cons_zero, List.set_cons_succ, Nat.reduceAdd]
          refine kept_val _ (fun _ => rfl) (fun ρ w hw => by have q0 := (x9.below hw).c0; have q1 := (x9.below hw).c1; go_simp; first | done | with_reducible rfl) ?_
          simp only [Act.put, List.setIfInBounds_toArray, List.set_cons_zero, List.set_cons_succ, Nat.reduceAdd]
          refine kept_val _ (fun _ => rfl) (fun ρ w hw => by go_simp; first | done | with_reducible rfl) ?_
          simp only [Act.put, List.setIfInBounds_toArray, List.set_cons_zero, List.set_cons_succ, Nat.reduceAdd]
          refine kept_val _ (fun _ => rfl) (fun ρ w hw => by go_simp; first | done | with_reducible rfl) ?_
          simp only [Act.put, List.setIfInBounds_toArray, List.set_cons_zero, List.set_cons_succ, Nat.reduceAdd]
          refine kept_val _ (fun _ => rfl) (fun ρ w hw => by go_simp; first | done | with_reducible rfl) ?_
          simp only [Act.put, List.setIfInBounds_toArray, List.set_cons_zero, List.set_cons_succ, Nat.reduceAdd]
          refine kept_val _ (fun _ => rfl) (fun ρ w hw => by go_simp; first | done | with_reducible rfl) ?_
          simp only [Act.put, List.setIfInBounds_toArray, List.set_cons_zero, List.set_cons_succ, Nat.reduceAdd]
          refine kept_val _ (fun _ => rfl) (fun ρ w hw => by go_simp; first | done | with_reducible rfl) ?_
          simp only [Act.put, List.setIfInBounds_toArray, List.set_cons_zero, List.set_cons_succ, Nat.reduceAdd]
          refine kept_val _ (fun _ => rfl) (fun ρ w hw => by go_simp; first | done | with_reducible rfl) ?_
          simp only [Act.put, List.setIfInBounds_toArray, List.set_cons_zero, List.set_cons_succ, Nat.reduceAdd]
          refine kept_val _ (fun _ => rfl) (fun ρ w hw => by go_simp; first | done | with_reducible rfl) ?_
          simp only [Act.put, List.setIfInBounds_toArray, List.set_cons_zero, List.set_cons_succ, Nat.reduceAdd]
          refine kept_val _ (fun _ => rfl) (fun ρ w hw => by have q0 := (x3.below hw).c0; have q1 := (x3.below hw).c1; go_simp; first | done | with_reducible rfl) ?_
          simp only [Act.put, List.setIfInBounds_toArray, List.set_cons_zero, List.set_cons_succ, Nat.reduceAdd]
          refine kept_call _ _ _ (fun _ => rfl) (fun ρ w hw => by go_simp; first | done | with_reducible rfl) (fun w hw => c7.of hG (bto hb hw)) ?_
          simp only [Act.put, List.setIfInBounds_toArray, List.set_cons_zero, List.set_cons_succ, Nat.reduceAdd]
          refine kept_val _ (fun _ => rfl) (fun ρ w hw => by have q0 := (x3.below hw).c0; have q1 := (x3.below hw).c1; go_simp; first | done | with_reducible rfl) ?_
          simp only [Act.put, List.setIfInBounds_toArray, List.set_cons_zero, List.set_cons_succ, Nat.reduceAdd]
          refine kept_call _ _ _ (fun _ => rfl) (fun ρ w hw => by go_simp; first | done | with_reducible rfl) (fun w hw => c8.of hG (bto hb hw)) ?_
          simp only [Act.put, List.setIfInBounds_toArray, List.set_cons_zero, List.set_cons_succ, Nat.reduceAdd]
          refine kept_val _ (fun _ => rfl) (fun ρ w hw => by go_simp; first | done | with_reducible rfl) ?_
          simp only [Act.put, List.setIfInBounds_toArray, List.set_cons_zero, List.set_cons_succ, Nat.reduceAdd]
          refine kept_val _ (fun _ => rfl) (fun ρ w hw => by go_simp; first | done | with_reducible rfl) ?_
          simp only [Act.put, List.setIfInBounds_toArray, List.set_cons_zero, List.set_cons_succ, Nat.reduceAdd]
          refine kept_val _ (fun _ => rfl) (fun ρ w hw => by go_simp; first | done | with_reducible rfl) ?_
          simp only [Act.put, List.setIfInBounds_toArray, List.set_cons_zero, List.set_cons_succ, Nat.reduceAdd]
          refine kept_val _ (fun _ => rfl) (fun ρ w hw => by have q0 := (x11.below hw).c0; have q1 := (x11.below hw).c1; go_simp; first | done | with_reducible rfl) ?_
          simp only [Act.put, List.setIfInBounds_toArray, List.set_cons_zero, List.set_cons_succ, Nat.reduceAdd]
          refine kept_val _ (fun _ => rfl) (fun ρ w hw => by have q0 := (x13.below hw).c0; have q1 := (x13.below hw).c1; go_simp; first | done | with_reducible rfl) ?_
          simp only [Act.put, List.setIfInBounds_toArray, List.set_cons_zero, List.set_cons_succ, Nat.reduceAdd]
          refine kept_val _ (fun _ => rfl) (fun ρ w hw => by go_simp; first | done | with_reducible rfl) ?_
          simp only [Act.put, List.setIfInBounds_toArray, List.set_cons_zero, List.set_cons_succ, Nat.reduceAdd]
          refine kept_val _ (fun _ => rfl) (fun ρ w hw => by go_simp; first | done | with_reducible rfl) ?_
          simp only [Act.put, List.setIfInBounds_toArray, List.set_cons_zero, List.set_cons_succ, Nat.reduceAdd]
          refine kept_val _ (fun _ => rfl) (fun ρ w hw => by go_simp; first | done | with_reducible rfl) ?_
          simp only [Act.put, List.setIfInBounds_toArray, List.set_cons_zero, List.set_cons_succ, Nat.reduceAdd]
          refine kept_val _ (fun _ => rfl) (fun ρ w hw => by go_simp; first | done | with_reducible rfl) ?_
          simp only [Act.put, List.setIfInBounds_toArray, List.set_cons_zero, List.set_cons_succ, Nat.reduceAdd]
          refine kept_val _ (fun _ => rfl) (fun ρ w hw => by go_simp; first | done | with_reducible rfl) ?_
          simp only [Act.put, List.setIfInBounds_toArray, List.set_cons_zero, List.set_cons_succ, Nat.reduceAdd]
          refine kept_val _ (fun _ => rfl) (fun ρ w hw => by go_simp; first | done | with_reducible rfl) ?_
          simp only [Act.put, List.setIfInBounds_toArray, List.set_cons_zero, List.set_cons_succ, Nat.reduceAdd]
          refine kept_val _ (fun _ => rfl) (fun ρ w hw => by go_simp; first | done | with_reducible rfl) ?_
          simp only [Act.put, List.setIfInBounds_toArray, List.set_cons_zero, List.set_cons_succ, Nat.reduceAdd]
          refine kept_val _ (fun _ => rfl) (fun ρ w hw => by go_simp; first | done | with_reducible rfl) ?_
          simp only [Act.put, List.setIfInBounds_toArray, List.set_cons_zero, List.set_cons_succ, Nat.reduceAdd]
          refine kept_call _ _ _ (fun _ => rfl) (fun ρ w hw => by go_simp; first | done | with_reducible rfl) (fun w hw => cW.of hG (bto hb hw)) ?_
          simp only [Act.put, List.setIfInBounds_toArray, List.set_cons_zero, List.set_cons_succ, Nat.reduceAdd]
          refine kept_val _ (fun _ => rfl) (fun ρ w hw => by go_simp; first | done | with_reducible rfl) ?_
          simp only [Act.put, List.setIfInBounds_toArray, List.set_cons_zero, List.set_cons_succ, Nat.reduceAdd]
          refine kept_val _ (fun _ => rfl) (fun ρ w hw => by go_simp; first | done | with_reducible rfl) ?_
          simp only [Act.put, List.setIfInBounds_toArray, List.set_cons_zero, List.set_cons_succ, Nat.reduceAdd]
          refine kept_end (fun ρ w6 hF => ?_)
          replace x3 := x3.below hF.below
          replace x7 := x7.below hF.below
          replace x9 := x9.below hF.below
          replace x11 := x11.below hF.below
          replace x13 := x13.below hF.below
          replace hb := bto hb hF.below
          clear hF
          go_wp2
          go_ret
          exact ⟨rfl, hb⟩
end Go.Proofs.YtdbmjbcgcajojaaGreatDoor
