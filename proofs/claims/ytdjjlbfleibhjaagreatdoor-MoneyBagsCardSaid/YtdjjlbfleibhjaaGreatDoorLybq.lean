/- The law MoneyBags. -/
import Derived.Test.YtdjjlbfleibhjaaGreatDoorM7
namespace Go.Proofs.YtdjjlbfleibhjaaGreatDoor
open Go.RowKit Num
theorem mAmountB {w : World} {A : Option Addr} {xs : List Mon} {n : Nat} (h : ML w A xs n) (c : Nat) (code : List UInt8) : RetB w 43 #[.slice A n c, .string ⟨code.toArray⟩] (.string ⟨(amtL xs code).toArray⟩) := fun w' hb => mAmount A xs n c code w' (h.below hb)
theorem jAmountB {w : World} {A : Option Addr} {xs : List Mon} {n : Nat} (h : ML w A xs n) (c : Nat) (code : List UInt8) : RetB w 44 #[.slice A n c, .string ⟨code.toArray⟩] (.string ⟨(amtL xs code).toArray⟩) := fun w' hb => (jAmount A xs n c code w' (h.below hb)).mono (by rintro e w2 ⟨rfl, rfl⟩; exact ⟨rfl, Below.refl _ _⟩)
theorem eqMsB {w : World} {A B : Option Addr} {xs : List Mon} {n c n' c' : Nat} (hl : xs.length ≤ 16) (hn : xs.length = n) (hn' : xs.length = n') (h : MonAt w A xs) (h' : MonAt w B xs) : RetB w 28 #[.slice A n c, .slice B n' c'] (.bool true) := fun w' hb => by
  have := eqMs A B xs xs n n' c c' w' hn hn' (by omega) (by omega) (h.below hb) (h'.below hb)
  rwa [sameMs_self] at this
theorem row_mf1 {w : World} {r : MRow} {A : Option Addr} {xs : List Mon} {n c : Nat} {W : World} (e : r = ⟨A, xs, n, c⟩) (h : FitR W r) (hI : MonAt w A xs) : MF w A xs n c := by
  subst e; exact ⟨h.len, h.cap, h.sz, h.str, hI⟩
set_option maxHeartbeats 8000000 in
set_option maxRecDepth 100000 in
theorem bags_law (A : Option Addr) (xs : List Mon) (n c : Nat) (m : Mon) (w : World) (hG : Glob w)
    (hn : xs.length = n) (hc : n ≤ c) (hm : n ≤ 9223372036854775807) (hI : MonAt w A xs) :
    Calls Tryz.prog 8 #[.slice A n c, .agg #[.string ⟨m.cur.toArray⟩, .string ⟨m.amt.toArray⟩]] w fun e w' => e = .returned (.bool true) ∧ Below w.heap.size w w' := by
  have HAw := Lib.hid wAwake5
  have HLg := Lib.hid (llongM m)
  obtain ⟨r, hr⟩ : ∃ r : MRow, r = ⟨A, xs, n, c⟩ := ⟨_, rfl⟩
  have hrA : r.At w := by rw [hr]; exact ⟨hn, hc, hm, hI⟩
  have hb0 := below_alloc w (.cells #[.string ⟨m.cur.toArray⟩, .string ⟨m.amt.toArray⟩] 25)
  have x3 := FBox.new w (.string ⟨m.cur.toArray⟩) (.string ⟨m.amt.toArray⟩) 25
  generalize hw0 : w.alloc (.cells #[.string ⟨m.cur.toArray⟩, .string ⟨m.amt.toArray⟩] 25) = w0 at *
  have HW0 := Lib.hid hw0
  have hsz : w.heap.size + 1 = w0.heap.size := by rw [← hw0]; simp
  have HSZ := Lib.hid hsz
  have hb1 := below_alloc w0 (.cells #[r.v] 35)
  have hb := bto hb0 hb1
  replace x3 := x3.below hb1
  have CG := Lib.hid (lgreatM _ [r] 1 1 _ (hG.below hb) rfl (by decide) row1_at (fun q hq => by
    rcases List.mem_cons.1 hq with rfl | hq
    · exact hrA.below hb
    · cases hq))
  rw [show r.v = .slice A n c by rw [hr]; rfl] at CG hb x3
  have HR := Lib.hid hr
  have HI := Lib.hid hI
  clear hr hrA hn hm hI hb0 hb1 hw0 hsz
  go_enter Tryz.func8, Tryz.ntmps8
  go_wp2_with fail
  rw [HW0.out, HSZ.out]
  refine CG.out.mono ?_
  rintro e w2 ⟨g, rfl, hg, hb2⟩
  have HF := Lib.hid hg
  replace hb := bto hb hb2
  replace x3 := x3.below hb2
  have q0 := x3.c0
  have q1 := x3.c1
  clear hg hb2 CG
  cases g with
  | true =>
    clear HF x3 q0 q1
    go_wp2_with fail
    ((with_reducible refine (HAw.out.of hG hb).mono ?_); rintro e wz ⟨rfl, hbz⟩)
    replace hb := bto hb hbz
    clear hbz
    go_wp2
    go_ret
    exact ⟨rfl, hb⟩
  | false =>
    have hX : MF w A xs n c := row_mf1 HR.out (HF.out rfl r (by simp)) HI.out
    have H1 := Lib.hid hX
    clear hX HF HR HI
    go_wp2_with fail
    ((with_reducible refine (HLg.out.of hG hb).mono ?_); rintro e w3 ⟨rfl, hb3⟩)
    replace hb := bto hb hb3
    replace x3 := x3.below hb3
    have q0 := x3.c0
    have q1 := x3.c1
    clear hb3
    by_cases gL : longM m = true
    · rw [gL]
      clear x3 q0 q1 gL H1
      go_wp2_with fail
      ((with_reducible refine (HAw.out.of hG hb).mono ?_); rintro e wz ⟨rfl, hbz⟩)
      replace hb := bto hb hbz
      clear hbz
      go_wp2
      go_ret
      exact ⟨rfl, hb⟩
    rw [not_true_b gL]
    have hL := longM_no (not_true_b gL)
    have K1 := Lib.hid (mCheckB hG H1.out.ml c)
    have K2 := Lib.hid (jBagB hG H1.out.ml c)
    have K3 := Lib.hid (mAmountB H1.out.ml c m.cur)
    have K4 := Lib.hid (jAmountB H1.out.ml c m.cur)
    have P1 := Lib.hid (fun (W : World) (hb : Below w.heap.size w W) => mPut A xs n c m W (hG.below hb) (H1.out.ml.below hb) hc (by omega) (by omega))
    have P2 := Lib.hid (fun (W : World) (hb : Below w.heap.size w W) => jPut A xs n c m W (hG.below hb) (H1.out.ml.below hb) (by omega) (by omega))
    have P3 := Lib.hid (fun (W : World) (hb : Below w.heap.size w W) => mNeg A xs n c W (hG.below hb) (H1.out.ml.below hb))
    have P4 := Lib.hid (fun (W : World) (hb : Below w.heap.size w W) => jNeg A xs n c W (hG.below hb) (H1.out.ml.below hb))
    have L1 := putV_len xs m
    have L2 := negV_len xs
    clear gL hL H1
    generalize (putV xs m).1 = u1 at *
    generalize (putV xs m).2 = z1 at *
    generalize (negV xs).1 = u2 at *
    generalize (negV xs).2 = z2 at *
    generalize bagE xs = E1 at *
    generalize (amtL xs m.cur) = E2 at *
    go_wp2_with fail
    refine (P1.out _ hb).mono ?_
    rintro e w4 ⟨B4, m4, c4, rfl, hm4, hc4, hM4, hb4⟩
    replace x3 := x3.below hb4
    replace hb := bto hb hb4
    clear hb4
    have q0 := x3.c0
    have q1 := x3.c1
    go_wp2_with fail
    refine (P2.out _ hb).mono ?_
    rintro e w5 ⟨B5, m5, c5, rfl, hm5, hc5, hM5, hb5⟩
    replace x3 := x3.below hb5
    replace hM4 := hM4.below hb5
    replace hb := bto hb hb5
    clear hb5
    have q0 := x3.c0
    have q1 := x3.c1
    go_wp2_with fail
    refine (P3.out _ hb).mono ?_
    rintro e w6 ⟨B6, m6, c6, rfl, hm6, hc6, hM6, hb6⟩
    replace x3 := x3.below hb6
    replace hM4 := hM4.below hb6
    replace hM5 := hM5.below hb6
    replace hb := bto hb hb6
    clear hb6
    have q0 := x3.c0
    have q1 := x3.c1
    go_wp2_with fail
    refine (P4.out _ hb).mono ?_
    rintro e w7 ⟨B7, m7, c7, rfl, hm7, hc7, hM7, hb7⟩
    replace x3 := x3.below hb7
    replace hM4 := hM4.below hb7
    replace hM5 := hM5.below hb7
    replace hM6 := hM6.below hb7
    replace hb := bto hb hb7
    clear hb7
    have q0 := x3.c0
    have q1 := x3.c1
    have K5 := Lib.hid (eqMsB (c := c4) (c' := c5) L1 hm4 hm5 hM4 hM5)
    have K6 := Lib.hid (eqMsB (c := c6) (c' := c7) L2 hm6 hm7 hM6 hM7)
    clear P1 P2 P3 P4 L1 L2 hM4 hM5 hM6 hM7 hm4 hm5 hm6 hm7 hc4 hc5 hc6 hc7
    go_wp2_with fail
    refine wp_region_kept (by kernel_rfl) (by kernel_rfl) ?_
    refine kept_val _ (fun _ => rfl) (fun ρ w hw => by go_simp; first | done | with_reducible rfl) ?_
    simp only [Act.put, List.setIfInBounds_toArray, List.set_cons_zero, List.set_cons_succ, Nat.reduceAdd]
    refine kept_call _ _ _ (fun _ => rfl) (fun ρ w hw => by go_simp; first | done | with_reducible rfl) (fun w hw => K1.out.of hG (bto hb hw)) ?_
    simp only [Act.put, List.setIfInBounds_toArray, List.set_cons_zero, List.set_cons_succ, Nat.reduceAdd]
    refine kept_val _ (fun _ => rfl) (fun ρ w hw => by go_simp; first | done | with_reducible rfl) ?_
    simp only [Act.put, List.setIfInBounds_toArray, List.set_cons_zero, List.set_cons_succ, Nat.reduceAdd]
    refine kept_call _ _ _ (fun _ => rfl) (fun ρ w hw => by go_simp; first | done | with_reducible rfl) (fun w hw => K2.out.of hG (bto hb hw)) ?_
    simp only [Act.put, List.setIfInBounds_toArray, List.set_cons_zero, List.set_cons_succ, Nat.reduceAdd]
    refine kept_val _ (fun _ => rfl) (fun ρ w hw => by go_simp; first | done | with_reducible rfl) ?_
    simp only [Act.put, List.setIfInBounds_toArray, List.set_cons_zero, List.set_cons_succ, Nat.reduceAdd]
    refine kept_val _ (fun _ => rfl) (fun ρ w hw => by go_simp; first | done | with_reducible rfl) ?_
    simp only [Act.put, List.setIfInBounds_toArray, List.set_cons_zero, List.set_cons_succ, Nat.reduceAdd]
    refine kept_val _ (fun _ => rfl) (fun ρ w hw => by go_simp; first | done | with_reducible rfl) ?_
    simp only [Act.put, List.setIfInBounds_toArray, List.set_cons_zero, List.set_cons_succ, Nat.reduceAdd]
    refine kept_val _ (fun _ => rfl) (fun ρ w hw => by go_simp; first | done | with_reducible rfl) ?_
    simp only [Act.put, List.setIfInBounds_toArray, List.set_cons_zero, List.set_cons_succ, Nat.reduceAdd]
    refine kept_val _ (fun _ => rfl) (fun ρ w hw => by have q0 := (x3.below hw).c0; have q1 := (x3.below hw).c1; go_simp; first | done | with_reducible rfl) ?_
    simp only [Act.put, List.setIfInBounds_toArray, List.set_cons_zero, List.set_cons_succ, Nat.reduceAdd]
    refine kept_call _ _ _ (fun _ => rfl) (fun ρ w hw => by go_simp; first | done | with_reducible rfl) (fun w hw => K3.out.of hG (bto hb hw)) ?_
    simp only [Act.put, List.setIfInBounds_toArray, List.set_cons_zero, List.set_cons_succ, Nat.reduceAdd]
    refine kept_val _ (fun _ => rfl) (fun ρ w hw => by go_simp; first | done | with_reducible rfl) ?_
    simp only [Act.put, List.setIfInBounds_toArray, List.set_cons_zero, List.set_cons_succ, Nat.reduceAdd]
    refine kept_val _ (fun _ => rfl) (fun ρ w hw => by go_simp; first | done | with_reducible rfl) ?_
    simp only [Act.put, List.setIfInBounds_toArray, List.set_cons_zero, List.set_cons_succ, Nat.reduceAdd]
    refine kept_val _ (fun _ => rfl) (fun ρ w hw => by have q0 := (x3.below hw).c0; have q1 := (x3.below hw).c1; go_simp; first | done | with_reducible rfl) ?_
    simp only [Act.put, List.setIfInBounds_toArray, List.set_cons_zero, List.set_cons_succ, Nat.reduceAdd]
    refine kept_call _ _ _ (fun _ => rfl) (fun ρ w hw => by go_simp; first | done | with_reducible rfl) (fun w hw => K4.out.of hG (bto hb hw)) ?_
    simp only [Act.put, List.setIfInBounds_toArray, List.set_cons_zero, List.set_cons_succ, Nat.reduceAdd]
    refine kept_val _ (fun _ => rfl) (fun ρ w hw => by go_simp; first | done | with_reducible rfl) ?_
    simp only [Act.put, List.setIfInBounds_toArray, List.set_cons_zero, List.set_cons_succ, Nat.reduceAdd]
    refine kept_val _ (fun _ => rfl) (fun ρ w hw => by go_simp; first | done | with_reducible rfl) ?_
    simp only [Act.put, List.setIfInBounds_toArray, List.set_cons_zero, List.set_cons_succ, Nat.reduceAdd]
    refine kept_val _ (fun _ => rfl) (fun ρ w hw => by go_simp; first | done | with_reducible rfl) ?_
    simp only [Act.put, List.setIfInBounds_toArray, List.set_cons_zero, List.set_cons_succ, Nat.reduceAdd]
    refine kept_val _ (fun _ => rfl) (fun ρ w hw => by go_simp; first | done | with_reducible rfl) ?_
    simp only [Act.put, List.setIfInBounds_toArray, List.set_cons_zero, List.set_cons_succ, Nat.reduceAdd]
    refine kept_val _ (fun _ => rfl) (fun ρ w hw => by go_simp; first | done | with_reducible rfl) ?_
    simp only [Act.put, List.setIfInBounds_toArray, List.set_cons_zero, List.set_cons_succ, Nat.reduceAdd]
    refine kept_call _ _ _ (fun _ => rfl) (fun ρ w hw => by go_simp; first | done | with_reducible rfl) (fun w hw => K5.out.of (hG.below hb) hw) ?_
    simp only [Act.put, List.setIfInBounds_toArray, List.set_cons_zero, List.set_cons_succ, Nat.reduceAdd]
    refine kept_val _ (fun _ => rfl) (fun ρ w hw => by go_simp; first | done | with_reducible rfl) ?_
    simp only [Act.put, List.setIfInBounds_toArray, List.set_cons_zero, List.set_cons_succ, Nat.reduceAdd]
    refine kept_val _ (fun _ => rfl) (fun ρ w hw => by go_simp; first | done | with_reducible rfl) ?_
    simp only [Act.put, List.setIfInBounds_toArray, List.set_cons_zero, List.set_cons_succ, Nat.reduceAdd]
    refine kept_val _ (fun _ => rfl) (fun ρ w hw => by go_simp; first | done | with_reducible rfl) ?_
    simp only [Act.put, List.setIfInBounds_toArray, List.set_cons_zero, List.set_cons_succ, Nat.reduceAdd]
    refine kept_val _ (fun _ => rfl) (fun ρ w hw => by go_simp; first | done | with_reducible rfl) ?_
    simp only [Act.put, List.setIfInBounds_toArray, List.set_cons_zero, List.set_cons_succ, Nat.reduceAdd]
    refine kept_val _ (fun _ => rfl) (fun ρ w hw => by go_simp; first | done | with_reducible rfl) ?_
    simp only [Act.put, List.setIfInBounds_toArray, List.set_cons_zero, List.set_cons_succ, Nat.reduceAdd]
    refine kept_val _ (fun _ => rfl) (fun ρ w hw => by go_simp; first | done | with_reducible rfl) ?_
    simp only [Act.put, List.setIfInBounds_toArray, List.set_cons_zero, List.set_cons_succ, Nat.reduceAdd]
    refine kept_val _ (fun _ => rfl) (fun ρ w hw => by go_simp; first | done | with_reducible rfl) ?_
    simp only [Act.put, List.setIfInBounds_toArray, List.set_cons_zero, List.set_cons_succ, Nat.reduceAdd]
    refine kept_val _ (fun _ => rfl) (fun ρ w hw => by go_simp; first | done | with_reducible rfl) ?_
    simp only [Act.put, List.setIfInBounds_toArray, List.set_cons_zero, List.set_cons_succ, Nat.reduceAdd]
    refine kept_val _ (fun _ => rfl) (fun ρ w hw => by go_simp; first | done | with_reducible rfl) ?_
    simp only [Act.put, List.setIfInBounds_toArray, List.set_cons_zero, List.set_cons_succ, Nat.reduceAdd]
    refine kept_call _ _ _ (fun _ => rfl) (fun ρ w hw => by go_simp; first | done | with_reducible rfl) (fun w hw => K6.out.of (hG.below hb) hw) ?_
    simp only [Act.put, List.setIfInBounds_toArray, List.set_cons_zero, List.set_cons_succ, Nat.reduceAdd]
    refine kept_val _ (fun _ => rfl) (fun ρ w hw => by go_simp; first | done | with_reducible rfl) ?_
    simp only [Act.put, List.setIfInBounds_toArray, List.set_cons_zero, List.set_cons_succ, Nat.reduceAdd]
    refine kept_val _ (fun _ => rfl) (fun ρ w hw => by go_simp; first | done | with_reducible rfl) ?_
    simp only [Act.put, List.setIfInBounds_toArray, List.set_cons_zero, List.set_cons_succ, Nat.reduceAdd]
    refine kept_val _ (fun _ => rfl) (fun ρ w hw => by go_simp; first | done | with_reducible rfl) ?_
    simp only [Act.put, List.setIfInBounds_toArray, List.set_cons_zero, List.set_cons_succ, Nat.reduceAdd]
    refine kept_val _ (fun _ => rfl) (fun ρ w hw => by go_simp; first | done | with_reducible rfl) ?_
    simp only [Act.put, List.setIfInBounds_toArray, List.set_cons_zero, List.set_cons_succ, Nat.reduceAdd]
    refine kept_val _ (fun _ => rfl) (fun ρ w hw => by go_simp; first | done | with_reducible rfl) ?_
    simp only [Act.put, List.setIfInBounds_toArray, List.set_cons_zero, List.set_cons_succ, Nat.reduceAdd]
    refine kept_val _ (fun _ => rfl) (fun ρ w hw => by go_simp; first | done | with_reducible rfl) ?_
    simp only [Act.put, List.setIfInBounds_toArray, List.set_cons_zero, List.set_cons_succ, Nat.reduceAdd]
    refine kept_val _ (fun _ => rfl) (fun ρ w hw => by go_simp; first | done | with_reducible rfl) ?_
    simp only [Act.put, List.setIfInBounds_toArray, List.set_cons_zero, List.set_cons_succ, Nat.reduceAdd]
    refine kept_call _ _ _ (fun _ => rfl) (fun ρ w hw => by go_simp; first | done | with_reducible rfl) (fun w hw => HAw.out.of hG (bto hb hw)) ?_
    simp only [Act.put, List.setIfInBounds_toArray, List.set_cons_zero, List.set_cons_succ, Nat.reduceAdd]
    refine kept_val _ (fun _ => rfl) (fun ρ w hw => by go_simp; first | done | with_reducible rfl) ?_
    simp only [Act.put, List.setIfInBounds_toArray, List.set_cons_zero, List.set_cons_succ, Nat.reduceAdd]
    refine kept_val _ (fun _ => rfl) (fun ρ w hw => by go_simp; first | done | with_reducible rfl) ?_
    simp only [Act.put, List.setIfInBounds_toArray, List.set_cons_zero, List.set_cons_succ, Nat.reduceAdd]
    refine kept_end (fun ρ w9 hF => ?_)
    replace hb := bto hb hF.below
    clear hF
    go_wp2
    go_ret
    exact ⟨rfl, hb⟩
end Go.Proofs.YtdjjlbfleibhjaaGreatDoor
