/- The law MoneyAmounts. -/
import Derived.Test.YtdjjlbfleibhjaaGreatDoorM8
namespace Go.Proofs.YtdjjlbfleibhjaaGreatDoor
open Go.RowKit Num
theorem mAmtB {w : World} {A : Option Addr} {xs : List Mon} {n : Nat} (h : ML w A xs n) (c : Nat) (code : List UInt8) : RetB w 43 #[.slice A n c, .string ⟨code.toArray⟩] (.string ⟨(amtL xs code).toArray⟩) := fun w' hb => mAmount A xs n c code w' (h.below hb)
theorem row_mf2 {w : World} {r : MRow} {A : Option Addr} {xs : List Mon} {n c : Nat} {W : World} (e : r = ⟨A, xs, n, c⟩) (h : FitR W r) (hI : MonAt w A xs) : MF w A xs n c := by
  subst e; exact ⟨h.len, h.cap, h.sz, h.str, hI⟩
theorem amtL_len {k : Nat} (c : List UInt8) : ∀ {xs : List Mon}, (∀ t ∈ xs, t.amt.length ≤ k) → (amtL xs c).length ≤ k
  | [], _ => Nat.zero_le _
  | x :: r, h => by
    show (if x.cur = c then x.amt else amtL r c).length ≤ k
    split
    · exact h x (by simp)
    · exact amtL_len c (fun t ht => h t (by simp [ht]))
/-- have all the same amount? -/
def alike (xs ys l : List Mon) : Bool := l.all (fun t => amtL xs t.cur == amtL ys t.cur)
theorem alike_step {xs ys l : List Mon} {k : Nat} {t : Mon} (h : l[k]? = some t) : alike xs ys (l.take (k + 1)) = (alike xs ys (l.take k) && (amtL xs t.cur == amtL ys t.cur)) := by
  obtain ⟨hk, rfl⟩ := List.getElem?_eq_some_iff.1 h
  unfold alike
  rw [List.take_add_one, List.getElem?_eq_getElem hk, List.all_append]
  simp
theorem alike_same {xs ys : List Mon} (h1 : Bag xs) (h2 : Bag ys) : alike xs ys (xs ++ ys) = sameMs xs ys := by
  by_cases h : xs = ys
  · subst h
    rw [sameMs_self]
    unfold alike
    rw [List.all_eq_true]
    intro x _
    simp
  · have hs : sameMs xs ys = false := not_true_b (fun g => h ((sameMs_iff xs ys).1 g))
    rw [hs]
    refine not_true_b (fun g => h (same_amts h1 h2 (fun x hx => ?_)))
    unfold alike at g
    have := List.all_eq_true.1 g x hx
    simpa using this
set_option maxHeartbeats 8000000 in
set_option maxRecDepth 100000 in
theorem amounts_law (A : Option Addr) (xs : List Mon) (n c : Nat) (B : Option Addr) (ys : List Mon) (n' c' : Nat) (code : List UInt8) (w : World) (hG : Glob w)
    (hn : xs.length = n) (hc : n ≤ c) (hm : n ≤ 9223372036854775807) (hI : MonAt w A xs) (hn' : ys.length = n') (hc' : n' ≤ c') (hm' : n' ≤ 9223372036854775807) (hI' : MonAt w B ys) :
    Calls Tryz.prog 9 #[.slice A n c, .slice B n' c', .string ⟨code.toArray⟩] w fun e w' => e = .returned (.bool true) ∧ Below w.heap.size w w' := by
  have HAw := Lib.hid wAwake5
  obtain ⟨r, hr⟩ : ∃ r : MRow, r = ⟨A, xs, n, c⟩ := ⟨_, rfl⟩
  obtain ⟨s, hs⟩ : ∃ s : MRow, s = ⟨B, ys, n', c'⟩ := ⟨_, rfl⟩
  have hrA : r.At w := by rw [hr]; exact ⟨hn, hc, hm, hI⟩
  have hsA : s.At w := by rw [hs]; exact ⟨hn', hc', hm', hI'⟩
  have hb := below_alloc w (.cells #[r.v, s.v] 35)
  have CG := Lib.hid (lgreatM _ [r, s] 2 2 _ (hG.below hb) rfl (by decide) row2_at (fun q hq => by
    rcases List.mem_cons.1 hq with rfl | hq
    · exact hrA.below hb
    · rcases List.mem_cons.1 hq with rfl | hq
      · exact hsA.below hb
      · cases hq))
  have hrv : r.v = .slice A n c := by rw [hr]; rfl
  have hsv : s.v = .slice B n' c' := by rw [hs]; rfl
  rw [hrv, hsv] at CG hb
  have HR := Lib.hid hr
  have HS := Lib.hid hs
  have HI := Lib.hid hI
  have HI' := Lib.hid hI'
  have HAt := Lib.hid (And.intro hrA hsA)
  have HV := Lib.hid (And.intro hrv hsv)
  clear hr hs hrA hsA hn hn' hm hm' hI hI' hc hc' hrv hsv
  go_enter Tryz.func9, Tryz.ntmps9
  go_wp2_with fail
  refine CG.out.mono ?_
  rintro e w2 ⟨g, rfl, hg, hb2⟩
  have HF := Lib.hid hg
  replace hb := bto hb hb2
  clear hg hb2 CG
  cases g with
  | true =>
    clear HF
    go_wp2_with fail
    ((with_reducible refine (HAw.out.of hG hb).mono ?_); rintro e wz ⟨rfl, hbz⟩)
    replace hb := bto hb hbz
    clear hbz
    go_wp2
    go_ret
    exact ⟨rfl, hb⟩
  | false =>
    have hF1 : MF w A xs n c := row_mf2 HR.out (HF.out rfl r (by simp)) HI.out
    have hF2 : MF w B ys n' c' := row_mf2 HS.out (HF.out rfl s (by simp)) HI'.out
    have H1 := Lib.hid hF1
    have H2 := Lib.hid hF2
    clear hF1 hF2 HF HI HI'
    by_cases g6 : 6 < n
    · have e1 : decide (6 < n) = true := decide_eq_true g6
      have e2 : decide ((6 : Int) < (n : Int)) = true := decide_eq_true (by omega)
      go_wp2_with fail
      ((with_reducible refine (HAw.out.of hG hb).mono ?_); rintro e wz ⟨rfl, hbz⟩)
      replace hb := bto hb hbz
      clear hbz
      go_wp2
      go_ret
      exact ⟨rfl, hb⟩
    have e1 : decide (6 < n) = false := decide_eq_false g6
    have e2 : decide ((6 : Int) < (n : Int)) = false := decide_eq_false (by omega)
    by_cases g7 : 6 < n'
    · have e3 : decide (6 < n') = true := decide_eq_true g7
      have e4 : decide ((6 : Int) < (n' : Int)) = true := decide_eq_true (by omega)
      go_wp2_with fail
      ((with_reducible refine (HAw.out.of hG hb).mono ?_); rintro e wz ⟨rfl, hbz⟩)
      replace hb := bto hb hbz
      clear hbz
      go_wp2
      go_ret
      exact ⟨rfl, hb⟩
    have e3 : decide (6 < n') = false := decide_eq_false g7
    have e4 : decide ((6 : Int) < (n' : Int)) = false := decide_eq_false (by omega)
    have K1 := Lib.hid (mCheckB hG H1.out.ml c)
    have K2 := Lib.hid (mCheckB hG H2.out.ml c')
    go_wp2_with fail
    ((with_reducible refine (K1.out.of hG hb).mono ?_); rintro e w3 ⟨rfl, hb3⟩)
    replace hb := bto hb hb3
    clear hb3
    clear K1 e1 e2 e3 e4
    by_cases g1 : bagE xs = 0
    rotate_left
    · have e3 : (bagE xs != 0) = true := bneq' (intbne g1)
      generalize bagE xs = E1 at *
      clear g1 K2
      go_wp2_with fail
      ((with_reducible refine (HAw.out.of hG hb).mono ?_); rintro e wz ⟨rfl, hbz⟩)
      replace hb := bto hb hbz
      clear hbz
      go_wp2
      go_ret
      exact ⟨rfl, hb⟩
    rw [g1]
    go_wp2_with fail
    ((with_reducible refine (K2.out.of hG hb).mono ?_); rintro e w4 ⟨rfl, hb4⟩)
    replace hb := bto hb hb4
    clear hb4
    clear K2
    by_cases g2 : bagE ys = 0
    rotate_left
    · have e3 : (bagE ys != 0) = true := bneq' (intbne g2)
      generalize bagE ys = E1 at *
      clear g1 g2
      go_wp2_with fail
      ((with_reducible refine (HAw.out.of hG hb).mono ?_); rintro e wz ⟨rfl, hbz⟩)
      replace hb := bto hb hbz
      clear hbz
      go_wp2
      go_ret
      exact ⟨rfl, hb⟩
    rw [g2]
    have ga : BG xs 13 n := BG.of g1 H1.out.str (Nat.le_of_eq H1.out.len)
    have gb : BG ys 13 n' := BG.of g2 H2.out.str (Nat.le_of_eq H2.out.len)
    have gab := ga.sum gb
    have la := ga.len
    have lb := gb.len
    have lab := gab.len
    have M1 := Lib.hid (fun (W : World) A B n c n' c' (hG : Glob W) (h1 : AtM W A xs n c) (h2 : AtM W B ys n' c') => mSumG hG ga gb (by decide) (by decide) h1 h2 rfl (by omega) (by omega) (by omega))
    have HSm := Lib.hid (fun cd => amt_sum ga.bag gb.bag cd)
    have HSa := Lib.hid (alike_same ga.bag gb.bag)
    have HMs := Lib.hid (fun (W : World) B n c (h : AtM W B (smL xs ys) n c) => gab.ml (by decide) (by omega) h)
    have L1 := Lib.hid (fun cd => amtL_len (k := 13) cd (fun t ht => (H1.out.str t ht).2))
    have L2 := Lib.hid (fun cd => amtL_len (k := 13) cd (fun t ht => (H2.out.str t ht).2))
    have hnx := H1.out.len
    have hny := H2.out.len
    clear g1 g2 ga gb gab la lb lab
    go_wp2_with fail
    refine (M1.out _ _ _ _ _ _ _ (hG.below hb) (H1.out.at.below hb) (H2.out.at.below hb)).mono ?_
    rintro e w5 ⟨B5, m5, c5, rfl, x5, hb5⟩
    replace hb := bto hb hb5
    have HM5 := HMs.out _ _ _ _ x5
    have A1 := Lib.hid (fun cd => mAmtB H1.out.ml c cd)
    have A2 := Lib.hid (fun cd => mAmtB H2.out.ml c' cd)
    have A3 := Lib.hid (fun cd => mAmtB HM5 c5 cd)
    simp only [HSm.out] at A3
    have AD := Lib.hid (fun cd => riAdd (l := amtL xs cd) (l' := amtL ys cd) (by have := L1.out cd; omega) (by have := L2.out cd; omega) rfl)
    have HB5 := Lib.hid hb
    clear hb5 M1 HSm HMs L1 L2 x5 HM5
    have a1 := Lib.hid (A1.out code)
    have a2 := Lib.hid (A2.out code)
    have a3 := Lib.hid (A3.out code)
    have ad := Lib.hid (AD.out code)
    generalize amtL xs code = v1 at *
    generalize amtL ys code = v2 at *
    generalize canon (val v1 + val v2) = v3 at *
    have hbq := Below.refl w5.heap.size w5
    go_wp2_with fail
    ((with_reducible refine (a3.out.of (hG.below hb) (Below.refl _ _)).mono ?_); rintro e w6 ⟨rfl, hb6⟩)
    replace hb := bto hb hb6
    replace hbq := bto hbq hb6
    clear hb6
    go_wp2_with fail
    ((with_reducible refine (a1.out.of hG hb).mono ?_); rintro e w7 ⟨rfl, hb7⟩)
    replace hb := bto hb hb7
    replace hbq := bto hbq hb7
    clear hb7
    go_wp2_with fail
    ((with_reducible refine (a2.out.of hG hb).mono ?_); rintro e w8 ⟨rfl, hb8⟩)
    replace hb := bto hb hb8
    replace hbq := bto hbq hb8
    clear hb8
    go_wp2_with fail
    ((with_reducible refine (ad.out.of hG hb).mono ?_); rintro e w9 ⟨rfl, hb9⟩)
    replace hb := bto hb hb9
    replace hbq := bto hbq hb9
    clear hb9
    clear a1 a2 a3 ad
    have hbA := below_alloc w9 (.cells #[r.v, s.v] 35)
    have hcat : catM [r, s] = xs ++ ys := by rw [HR.out, HS.out]; simp [catM]
    have CC := concatM _ [r, s] 2 2 _ rfl (by decide) (row2_at (w := w9)) (fun q hq => by
      rcases List.mem_cons.1 hq with rfl | hq
      · exact HAt.out.1.below (bto hb hbA)
      · rcases List.mem_cons.1 hq with rfl | hq
        · exact HAt.out.2.below (bto hb hbA)
        · cases hq) (by rw [hcat, List.length_append]; omega)
    obtain ⟨L, hL⟩ : ∃ L, L = xs ++ ys := ⟨_, rfl⟩
    rw [hcat, ← hL] at CC
    rw [← hL] at HSa
    rw [HV.out.1, HV.out.2] at CC hbA
    have HL := Lib.hid hL
    have hl12 : L.length ≤ 12 := by rw [hL, List.length_append]; omega
    have CC := Lib.hid CC
    replace hb := bto hb hbA
    replace hbq := bto hbq hbA
    clear hL hcat hbA HAt HR HS HV hnx hny
    obtain ⟨T, hT⟩ : ∃ T, T = L.length := ⟨_, rfl⟩
    have HT := Lib.hid hT
    rw [← hT] at CC hl12
    clear hT
    go_wp2_with fail
    refine CC.out.mono ?_
    rintro e wc ⟨C, cp, rfl, hcp, hM, hbc⟩
    have HM := Lib.hid hM
    replace hb := bto hb hbc
    replace hbq := bto hbq hbc
    have HBc := Lib.hid hb
    have HBq := Lib.hid hbq
    clear hM hbc CC
    go_wp2_with fail
    go_loopw [9, 63] (fun sv iv wr => ∃ k : Nat, k ≤ T ∧ iv = .int .i64 (k : Int) ∧ sv = .bool (alike xs ys (L.take k)) ∧ Below wc.heap.size wc wr) (fun _ iv _ => T - (intOf iv).toNat)
    case atStart => exact ⟨0, Nat.zero_le _, rfl, rfl, Below.refl _ _⟩
    case round =>
      clear hb hbq
      obtain ⟨k, hk, rfl, rfl, hbz⟩ := hrel
      have hb := bto HBc.out hbz
      have hbq := bto HBq.out hbz
      by_cases hlt : k < T
      · obtain ⟨t, ht⟩ : ∃ t, L[k]? = some t := ⟨_, List.getElem?_eq_getElem (by rw [← HT.out]; exact hlt)⟩
        obtain ⟨b, o, rfl, hbs, p0, p1⟩ := (HM.out.below hbz) k t ht
        have hst := alike_step (xs := xs) (ys := ys) ht
        have a1 := Lib.hid (A1.out t.cur)
        have a2 := Lib.hid (A2.out t.cur)
        have a3 := Lib.hid (A3.out t.cur)
        have ad := Lib.hid (AD.out t.cur)
        generalize amtL xs t.cur = v1 at *
        generalize amtL ys t.cur = v2 at *
        generalize canon (val v1 + val v2) = v3 at *
        have HST := Lib.hid hst
        have hbA := below_alloc wr (.cells #[.string ⟨t.cur.toArray⟩, .string ⟨t.amt.toArray⟩] 25)
        have x11 := FBox.new wr (.string ⟨t.cur.toArray⟩) (.string ⟨t.amt.toArray⟩) 25
        replace hb := bto hb hbA
        replace hbq := bto hbq hbA
        replace hbz := bto hbz hbA
        clear hbA ht hst A1 A2 A3 AD
        generalize alike xs ys (L.take k) = d at *
        cases d with
        | true =>
          have HS2 : Hid (alike xs ys (L.take (k + 1)) = (v1 == v2)) := by show _ = _; rw [HST.out]; simp
          clear HST
          go_wp2_with fail
          refine wp_region_kept (by kernel_rfl) (by kernel_rfl) ?_
          refine kept_val _ (fun _ => rfl) (fun ρ w hw => by go_simp; first | done | with_reducible rfl) ?_
          simp only [Act.put, List.setIfInBounds_toArray, List.set_cons_zero, List.set_cons_succ, Nat.reduceAdd]
          refine kept_val _ (fun _ => rfl) (fun ρ w hw => by go_simp; first | done | with_reducible rfl) ?_
          simp only [Act.put, List.setIfInBounds_toArray, List.set_cons_zero, List.set_cons_succ, Nat.reduceAdd]
          refine kept_val _ (fun _ => rfl) (fun ρ w hw => by go_simp; first | done | with_reducible rfl) ?_
          simp only [Act.put, List.setIfInBounds_toArray, List.set_cons_zero, List.set_cons_succ, Nat.reduceAdd]
          refine kept_val _ (fun _ => rfl) (fun ρ w hw => by go_simp; first | done | with_reducible rfl) ?_
          simp only [Act.put, List.setIfInBounds_toArray, List.set_cons_zero, List.set_cons_succ, Nat.reduceAdd]
          refine kept_val _ (fun _ => rfl) (fun ρ w hw => by have q0 := (x11.below hw).c0; have q1 := (x11.below hw).c1; go_simp; first | done | with_reducible rfl) ?_
          simp only [Act.put, List.setIfInBounds_toArray, List.set_cons_zero, List.set_cons_succ, Nat.reduceAdd]
          refine kept_call _ _ _ (fun _ => rfl) (fun ρ w hw => by go_simp; first | done | with_reducible rfl) (fun w hw => a1.out.of hG (bto hb hw)) ?_
          simp only [Act.put, List.setIfInBounds_toArray, List.set_cons_zero, List.set_cons_succ, Nat.reduceAdd]
          refine kept_val _ (fun _ => rfl) (fun ρ w hw => by go_simp; first | done | with_reducible rfl) ?_
          simp only [Act.put, List.setIfInBounds_toArray, List.set_cons_zero, List.set_cons_succ, Nat.reduceAdd]
          refine kept_val _ (fun _ => rfl) (fun ρ w hw => by go_simp; first | done | with_reducible rfl) ?_
          simp only [Act.put, List.setIfInBounds_toArray, List.set_cons_zero, List.set_cons_succ, Nat.reduceAdd]
          refine kept_val _ (fun _ => rfl) (fun ρ w hw => by have q0 := (x11.below hw).c0; have q1 := (x11.below hw).c1; go_simp; first | done | with_reducible rfl) ?_
          simp only [Act.put, List.setIfInBounds_toArray, List.set_cons_zero, List.set_cons_succ, Nat.reduceAdd]
          refine kept_call _ _ _ (fun _ => rfl) (fun ρ w hw => by go_simp; first | done | with_reducible rfl) (fun w hw => a2.out.of hG (bto hb hw)) ?_
          simp only [Act.put, List.setIfInBounds_toArray, List.set_cons_zero, List.set_cons_succ, Nat.reduceAdd]
          refine kept_val _ (fun _ => rfl) (fun ρ w hw => by go_simp; first | done | with_reducible rfl) ?_
          simp only [Act.put, List.setIfInBounds_toArray, List.set_cons_zero, List.set_cons_succ, Nat.reduceAdd]
          refine kept_val _ (fun _ => rfl) (fun ρ w hw => by go_simp; first | done | with_reducible rfl) ?_
          simp only [Act.put, List.setIfInBounds_toArray, List.set_cons_zero, List.set_cons_succ, Nat.reduceAdd]
          refine kept_val _ (fun _ => rfl) (fun ρ w hw => by go_simp; first | done | with_reducible rfl) ?_
          simp only [Act.put, List.setIfInBounds_toArray, List.set_cons_zero, List.set_cons_succ, Nat.reduceAdd]
          refine kept_end (fun ρ w11 hF => ?_)
          have hbF := hF.below
          replace hb := bto hb hbF
          replace hbq := bto hbq hbF
          replace hbz := bto hbz hbF
          replace x11 := x11.below hbF
          clear hF hbF p0 p1
          go_wp2_with fail
          refine wp_region_kept (by kernel_rfl) (by kernel_rfl) ?_
          refine kept_val _ (fun _ => rfl) (fun ρ w hw => by go_simp; first | done | with_reducible rfl) ?_
          simp only [Act.put, List.setIfInBounds_toArray, List.set_cons_zero, List.set_cons_succ, Nat.reduceAdd]
          refine kept_val _ (fun _ => rfl) (fun ρ w hw => by go_simp; first | done | with_reducible rfl) ?_
          simp only [Act.put, List.setIfInBounds_toArray, List.set_cons_zero, List.set_cons_succ, Nat.reduceAdd]
          refine kept_val _ (fun _ => rfl) (fun ρ w hw => by have q0 := (x11.below hw).c0; have q1 := (x11.below hw).c1; go_simp; first | done | with_reducible rfl) ?_
          simp only [Act.put, List.setIfInBounds_toArray, List.set_cons_zero, List.set_cons_succ, Nat.reduceAdd]
          refine kept_call _ _ _ (fun _ => rfl) (fun ρ w hw => by go_simp; first | done | with_reducible rfl) (fun w hw => a3.out.of (hG.below HB5.out) (bto hbq hw)) ?_
          simp only [Act.put, List.setIfInBounds_toArray, List.set_cons_zero, List.set_cons_succ, Nat.reduceAdd]
          refine kept_val _ (fun _ => rfl) (fun ρ w hw => by go_simp; first | done | with_reducible rfl) ?_
          simp only [Act.put, List.setIfInBounds_toArray, List.set_cons_zero, List.set_cons_succ, Nat.reduceAdd]
          refine kept_val _ (fun _ => rfl) (fun ρ w hw => by go_simp; first | done | with_reducible rfl) ?_
          simp only [Act.put, List.setIfInBounds_toArray, List.set_cons_zero, List.set_cons_succ, Nat.reduceAdd]
          refine kept_val _ (fun _ => rfl) (fun ρ w hw => by have q0 := (x11.below hw).c0; have q1 := (x11.below hw).c1; go_simp; first | done | with_reducible rfl) ?_
          simp only [Act.put, List.setIfInBounds_toArray, List.set_cons_zero, List.set_cons_succ, Nat.reduceAdd]
          refine kept_call _ _ _ (fun _ => rfl) (fun ρ w hw => by go_simp; first | done | with_reducible rfl) (fun w hw => a1.out.of hG (bto hb hw)) ?_
          simp only [Act.put, List.setIfInBounds_toArray, List.set_cons_zero, List.set_cons_succ, Nat.reduceAdd]
          refine kept_val _ (fun _ => rfl) (fun ρ w hw => by go_simp; first | done | with_reducible rfl) ?_
          simp only [Act.put, List.setIfInBounds_toArray, List.set_cons_zero, List.set_cons_succ, Nat.reduceAdd]
          refine kept_val _ (fun _ => rfl) (fun ρ w hw => by go_simp; first | done | with_reducible rfl) ?_
          simp only [Act.put, List.setIfInBounds_toArray, List.set_cons_zero, List.set_cons_succ, Nat.reduceAdd]
          refine kept_val _ (fun _ => rfl) (fun ρ w hw => by have q0 := (x11.below hw).c0; have q1 := (x11.below hw).c1; go_simp; first | done | with_reducible rfl) ?_
          simp only [Act.put, List.setIfInBounds_toArray, List.set_cons_zero, List.set_cons_succ, Nat.reduceAdd]
          refine kept_call _ _ _ (fun _ => rfl) (fun ρ w hw => by go_simp; first | done | with_reducible rfl) (fun w hw => a2.out.of hG (bto hb hw)) ?_
          simp only [Act.put, List.setIfInBounds_toArray, List.set_cons_zero, List.set_cons_succ, Nat.reduceAdd]
          refine kept_call _ _ _ (fun _ => rfl) (fun ρ w hw => by go_simp; first | done | with_reducible rfl) (fun w hw => ad.out.of hG (bto hb hw)) ?_
          simp only [Act.put, List.setIfInBounds_toArray, List.set_cons_zero, List.set_cons_succ, Nat.reduceAdd]
          refine kept_val _ (fun _ => rfl) (fun ρ w hw => by go_simp; first | done | with_reducible rfl) ?_
          simp only [Act.put, List.setIfInBounds_toArray, List.set_cons_zero, List.set_cons_succ, Nat.reduceAdd]
          refine kept_end (fun ρ w12 hF => ?_)
          have hbF := hF.below
          replace hbz := bto hbz hbF
          clear hF hbF x11 a1 a2 a3 ad hb hbq
          go_wp2
          go_roundw
          case rel => exact ⟨k + 1, by omega, by go_num, by rw [HS2.out], hbz⟩
          case measure => simp [intOf]; omega
        | false =>
          have HS2 : Hid (alike xs ys (L.take (k + 1)) = false) := by show _ = _; rw [HST.out]; simp
          clear HST
          go_wp2_with fail
          refine wp_region_kept (by kernel_rfl) (by kernel_rfl) ?_
          refine kept_val _ (fun _ => rfl) (fun ρ w hw => by go_simp; first | done | with_reducible rfl) ?_
          simp only [Act.put, List.setIfInBounds_toArray, List.set_cons_zero, List.set_cons_succ, Nat.reduceAdd]
          refine kept_val _ (fun _ => rfl) (fun ρ w hw => by go_simp; first | done | with_reducible rfl) ?_
          simp only [Act.put, List.setIfInBounds_toArray, List.set_cons_zero, List.set_cons_succ, Nat.reduceAdd]
          refine kept_off (fun _ => rfl) ?_
          simp only [Act.put, List.setIfInBounds_toArray, List.set_cons_zero, List.set_cons_succ, Nat.reduceAdd]
          refine kept_off (fun _ => rfl) ?_
          simp only [Act.put, List.setIfInBounds_toArray, List.set_cons_zero, List.set_cons_succ, Nat.reduceAdd]
          refine kept_off (fun _ => rfl) ?_
          simp only [Act.put, List.setIfInBounds_toArray, List.set_cons_zero, List.set_cons_succ, Nat.reduceAdd]
          refine kept_off (fun _ => rfl) ?_
          simp only [Act.put, List.setIfInBounds_toArray, List.set_cons_zero, List.set_cons_succ, Nat.reduceAdd]
          refine kept_off (fun _ => rfl) ?_
          simp only [Act.put, List.setIfInBounds_toArray, List.set_cons_zero, List.set_cons_succ, Nat.reduceAdd]
          refine kept_off (fun _ => rfl) ?_
          simp only [Act.put, List.setIfInBounds_toArray, List.set_cons_zero, List.set_cons_succ, Nat.reduceAdd]
          refine kept_off (fun _ => rfl) ?_
          simp only [Act.put, List.setIfInBounds_toArray, List.set_cons_zero, List.set_cons_succ, Nat.reduceAdd]
          refine kept_off (fun _ => rfl) ?_
          simp only [Act.put, List.setIfInBounds_toArray, List.set_cons_zero, List.set_cons_succ, Nat.reduceAdd]
          refine kept_off (fun _ => rfl) ?_
          simp only [Act.put, List.setIfInBounds_toArray, List.set_cons_zero, List.set_cons_succ, Nat.reduceAdd]
          refine kept_val _ (fun _ => rfl) (fun ρ w hw => by go_simp; first | done | with_reducible rfl) ?_
          simp only [Act.put, List.setIfInBounds_toArray, List.set_cons_zero, List.set_cons_succ, Nat.reduceAdd]
          refine kept_val _ (fun _ => rfl) (fun ρ w hw => by go_simp; first | done | with_reducible rfl) ?_
          simp only [Act.put, List.setIfInBounds_toArray, List.set_cons_zero, List.set_cons_succ, Nat.reduceAdd]
          refine kept_end (fun ρ w11 hF => ?_)
          have hbF := hF.below
          replace hb := bto hb hbF
          replace hbq := bto hbq hbF
          replace hbz := bto hbz hbF
          replace x11 := x11.below hbF
          clear hF hbF p0 p1
          go_wp2_with fail
          refine wp_region_kept (by kernel_rfl) (by kernel_rfl) ?_
          refine kept_val _ (fun _ => rfl) (fun ρ w hw => by go_simp; first | done | with_reducible rfl) ?_
          simp only [Act.put, List.setIfInBounds_toArray, List.set_cons_zero, List.set_cons_succ, Nat.reduceAdd]
          refine kept_val _ (fun _ => rfl) (fun ρ w hw => by go_simp; first | done | with_reducible rfl) ?_
          simp only [Act.put, List.setIfInBounds_toArray, List.set_cons_zero, List.set_cons_succ, Nat.reduceAdd]
          refine kept_val _ (fun _ => rfl) (fun ρ w hw => by have q0 := (x11.below hw).c0; have q1 := (x11.below hw).c1; go_simp; first | done | with_reducible rfl) ?_
          simp only [Act.put, List.setIfInBounds_toArray, List.set_cons_zero, List.set_cons_succ, Nat.reduceAdd]
          refine kept_call _ _ _ (fun _ => rfl) (fun ρ w hw => by go_simp; first | done | with_reducible rfl) (fun w hw => a3.out.of (hG.below HB5.out) (bto hbq hw)) ?_
          simp only [Act.put, List.setIfInBounds_toArray, List.set_cons_zero, List.set_cons_succ, Nat.reduceAdd]
          refine kept_val _ (fun _ => rfl) (fun ρ w hw => by go_simp; first | done | with_reducible rfl) ?_
          simp only [Act.put, List.setIfInBounds_toArray, List.set_cons_zero, List.set_cons_succ, Nat.reduceAdd]
          refine kept_val _ (fun _ => rfl) (fun ρ w hw => by go_simp; first | done | with_reducible rfl) ?_
          simp only [Act.put, List.setIfInBounds_toArray, List.set_cons_zero, List.set_cons_succ, Nat.reduceAdd]
          refine kept_val _ (fun _ => rfl) (fun ρ w hw => by have q0 := (x11.below hw).c0; have q1 := (x11.below hw).c1; go_simp; first | done | with_reducible rfl) ?_
          simp only [Act.put, List.setIfInBounds_toArray, List.set_cons_zero, List.set_cons_succ, Nat.reduceAdd]
          refine kept_call _ _ _ (fun _ => rfl) (fun ρ w hw => by go_simp; first | done | with_reducible rfl) (fun w hw => a1.out.of hG (bto hb hw)) ?_
          simp only [Act.put, List.setIfInBounds_toArray, List.set_cons_zero, List.set_cons_succ, Nat.reduceAdd]
          refine kept_val _ (fun _ => rfl) (fun ρ w hw => by go_simp; first | done | with_reducible rfl) ?_
          simp only [Act.put, List.setIfInBounds_toArray, List.set_cons_zero, List.set_cons_succ, Nat.reduceAdd]
          refine kept_val _ (fun _ => rfl) (fun ρ w hw => by go_simp; first | done | with_reducible rfl) ?_
          simp only [Act.put, List.setIfInBounds_toArray, List.set_cons_zero, List.set_cons_succ, Nat.reduceAdd]
          refine kept_val _ (fun _ => rfl) (fun ρ w hw => by have q0 := (x11.below hw).c0; have q1 := (x11.below hw).c1; go_simp; first | done | with_reducible rfl) ?_
          simp only [Act.put, List.setIfInBounds_toArray, List.set_cons_zero, List.set_cons_succ, Nat.reduceAdd]
          refine kept_call _ _ _ (fun _ => rfl) (fun ρ w hw => by go_simp; first | done | with_reducible rfl) (fun w hw => a2.out.of hG (bto hb hw)) ?_
          simp only [Act.put, List.setIfInBounds_toArray, List.set_cons_zero, List.set_cons_succ, Nat.reduceAdd]
          refine kept_call _ _ _ (fun _ => rfl) (fun ρ w hw => by go_simp; first | done | with_reducible rfl) (fun w hw => ad.out.of hG (bto hb hw)) ?_
          simp only [Act.put, List.setIfInBounds_toArray, List.set_cons_zero, List.set_cons_succ, Nat.reduceAdd]
          refine kept_val _ (fun _ => rfl) (fun ρ w hw => by go_simp; first | done | with_reducible rfl) ?_
          simp only [Act.put, List.setIfInBounds_toArray, List.set_cons_zero, List.set_cons_succ, Nat.reduceAdd]
          refine kept_end (fun ρ w12 hF => ?_)
          have hbF := hF.below
          replace hbz := bto hbz hbF
          clear hF hbF x11 a1 a2 a3 ad hb hbq
          go_wp2
          go_roundw
          case rel => exact ⟨k + 1, by omega, by go_num, by rw [HS2.out], hbz⟩
          case measure => simp [intOf]; omega
      · have hfs : L.take k = L := List.take_of_length_le (by rw [← HT.out]; omega)
        rw [hfs, HSa.out]
        have CE := Lib.hid (fun (W : World) (hb : Below w.heap.size w W) => eqMs A B xs ys n n' c c' W H1.out.len H2.out.len (by omega) (by omega) (H1.out.mem.below hb) (H2.out.mem.below hb))
        generalize sameMs xs ys = sm at *
        clear hfs A1 A2 A3 AD
        go_wp2_with fail
        refine (CE.out _ hb).mono ?_
        rintro e w13 ⟨rfl, hb13⟩
        replace hb := bto hb hb13
        clear hb13 CE
        go_wp2_with fail
        ((with_reducible refine (HAw.out.of hG hb).mono ?_); rintro e wz ⟨rfl, hbz⟩)
        replace hb := bto hb hbz
        clear hbz
        go_wp2
        go_ret
        exact ⟨rfl, hb⟩
end Go.Proofs.YtdjjlbfleibhjaaGreatDoor
