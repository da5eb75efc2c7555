/- Texts put together: Ec Ed. -/
import Derived.Test.YtdjjlbfleibhjaaGreatDoorM5
namespace Go.Proofs.YtdjjlbfleibhjaaGreatDoor
open Go.RowKit Num
structure FracF (s W P : List UInt8) (B ng : Bool) : Prop where
  w0 : isD W = false → FracV s = .tuple #[.agg #[.string ⟨#[]⟩, .string ⟨#[]⟩], .int .i64 3]
  w1 : ∀ x, W[0]? = some x → 1 < W.length → x = 48 → FracV s = .tuple #[.agg #[.string ⟨#[]⟩, .string ⟨#[]⟩], .int .i64 3]
  p0 : B = true → isD P = false → FracV s = .tuple #[.agg #[.string ⟨#[]⟩, .string ⟨#[]⟩], .int .i64 3]
  n0 : ng = true → nat (W ++ P) = 0 → FracV s = .tuple #[.agg #[.string ⟨#[]⟩, .string ⟨#[]⟩], .int .i64 3]
  ok : okW W = true → (B = false ∨ isD P = true) → (ng = false ∨ nat (W ++ P) ≠ 0) → FracV s = .tuple #[(Value.agg #[Value.string ⟨List.toArray (fN (Rat.divInt (if ng then -(nat (W ++ P) : Int) else (nat (W ++ P) : Int)) ((10 ^ P.length : Nat) : Int)))⟩, Value.string ⟨List.toArray (fD (Rat.divInt (if ng then -(nat (W ++ P) : Int) else (nat (W ++ P) : Int)) ((10 ^ P.length : Nat) : Int)))⟩]), .int .i64 0]
  dig : okW W = true → (B = false ∨ isD P = true) → (W ++ P).all isDig = true
theorem fracF {s W P : List UInt8} {B ng : Bool} (hW : decW s = W) (hP : decP s = P) (hB : decB s = B) (hn : isNeg s = ng) : FracF s W P B ng := by
  subst hW; subst hP; subst hB; subst hn
  refine ⟨fun h => fracV_f (decOk_W (okW_not_dig h)), fun x h h1 h2 => fracV_f (decOk_W (okW_zero h h1 h2)), fun h1 h2 => fracV_f (decOk_P h1 h2), fun h1 h2 => fracV_f (decOk_0 h1 h2), fun h1 h2 h3 => ?_, fun h1 h2 => ?_⟩
  · rw [fracV_t (decOk_of h1 h2 h3)]; rfl
  · rw [List.all_append, (okW_fmt h1).2.2]
    rcases h2 with h | h
    · rw [decB_nil h]; rfl
    · exact ((isD_iff _).1 h).2
theorem cut_parts {s R : List UInt8} (hR : rest s = R) {a b : List UInt8} {t : Bool} (h : Lib.cut R [46] = (a, b, t)) : decW s = a ∧ decP s = b ∧ decB s = t := by
  unfold decW decP decB; rw [hR, h]; exact ⟨rfl, rfl, rfl⟩
theorem fv_new {A B : List UInt8} {a b : Int} (ha : val A = a) (hb : val B = b) (h0 : b ≠ 0) : fv A B = Rat.divInt a b := by
  unfold fv den1; rw [ha, hb, if_neg h0]
theorem ten_ne3 (p : Nat) : ((10 ^ p : Nat) : Int) ≠ 0 := by have := Nat.pow_pos (n := p) (show 0 < 10 by decide); omega
set_option maxHeartbeats 8000000 in
set_option maxRecDepth 100000 in
theorem eFrac_n {s R : List UInt8} (hs : s.length ≤ 1000) (hsR : s = 45 :: R) : Ret 147 #[.string ⟨s.toArray⟩] (FracV s) := fun w hG => by
  have k0 : decide (65536 < s.length) = false := decide_eq_false (by omega)
  have k00 : ¬ 65536 < s.length := by omega
  have hRl : R.length ≤ 1000 := by rw [hsR] at hs; simp at hs; omega
  have hrest : rest s = R := by rw [hsR]; rfl
  have hneg : isNeg s = true := by rw [hsR]; rfl
  have hlt0 : 0 < s.length := by rw [hsR]; simp
  have hnb : (s == []) = false := by rw [hsR]; rfl
  have hni : s.isEmpty = false := by rw [hsR]; rfl
  have hlt0' : 0 < (⟨s.toArray⟩ : ByteArray).size := by show 0 < s.toArray.size; simpa using hlt0
  have k2 : ∀ hp, (⟨s.toArray⟩ : ByteArray)[0]'hp = 45 := by rw [hsR]; exact fun hp => rfl
  have k4 : (⟨s.toArray⟩ : ByteArray).extract 1 s.length = ⟨R.toArray⟩ := by rw [hsR, extract_list]; simp
  clear hsR
  have hb := below_alloc w (.cells #[.string ⟨#[]⟩, .string ⟨#[]⟩] 42)
  have x2 := FBox.new w (.string ⟨#[]⟩) (.string ⟨#[]⟩) 42
  have HF0 : Hid (46 ∉ R → FracF s R [] false true) := fun h => by
    obtain ⟨a1, a2, a3⟩ := cut_parts hrest (cut46_none h)
    exact fracF a1 a2 a3 hneg
  have HF1 : Hid (∀ k, 46 ∉ R.take k → R[k]? = some 46 → FracF s (R.take k) (R.drop (k + 1)) true true) := fun k h hk => by
    obtain ⟨hk', hk2⟩ := List.getElem?_eq_some_iff.1 hk
    have e : R = R.take k ++ 46 :: R.drop (k + 1) := by rw [← hk2, ← List.drop_eq_getElem_cons hk', List.take_append_drop]
    have hcut : Lib.cut R [46] = (R.take k, R.drop (k + 1), true) := by have := cut46_at (R.drop (k + 1)) h; rwa [← e] at this
    obtain ⟨a1, a2, a3⟩ := cut_parts hrest hcut
    exact fracF a1 a2 a3 hneg
  clear hrest hneg hs
  go_enter Tryz.func147, Tryz.ntmps147
  go_wp2_with fail
  go_quiet (fail)
  replace hb := bdrewN hb nq
  replace x2 := x2.below (bdrewN (Below.refl _ _) nq)
  go_wp2_with fail
  generalize (w.alloc (.cells #[.string ⟨#[]⟩, .string ⟨#[]⟩] 42)).drewN nq = wq at *
  clear k2 k4 k0 k00 hlt0 hlt0' hnb hni
  go_loop [6, 7, 8] (fun wv pv iv => ∃ k : Nat, k ≤ R.length ∧ wv = .string ⟨R.toArray⟩ ∧ pv = .string ⟨#[]⟩ ∧ iv = .int .i64 (k : Int) ∧ Hid (46 ∉ R.take k)) (fun _ _ iv => R.length - (intOf iv).toNat)
  case atStart => exact ⟨0, Nat.zero_le _, rfl, rfl, rfl, by show 46 ∉ R.take 0; simp⟩
  case round =>
    obtain ⟨k, hk, rfl, rfl, rfl, HK⟩ := hrel
    by_cases hlt : k < R.length
    · have hlt' : k < (⟨R.toArray⟩ : ByteArray).size := by show k < R.toArray.size; simpa using hlt
      obtain ⟨x, hx⟩ : ∃ x, x = (⟨R.toArray⟩ : ByteArray)[k] := ⟨_, rfl⟩
      have hxl : R[k]? = some x := by rw [hx]; simp [hlt]; rfl
      have HX := Lib.hid hxl
      clear hxl
      have hx2 : ∀ hp, (⟨R.toArray⟩ : ByteArray)[k]'hp = x := fun _ => hx.symm
      clear hx
      by_cases h46 : x = 46
      · have e46 : ((x.toNat : Int) == 46) = true := by rw [h46]; rfl
        have FF := Lib.hid (HF1.out k HK.out (by rw [HX.out, h46]))
        have kx : (⟨R.toArray⟩ : ByteArray).extract 0 k = ⟨(R.take k).toArray⟩ := by rw [extract_list]; simp
        have ky : (⟨R.toArray⟩ : ByteArray).extract (k + 1) R.length = ⟨(R.drop (k + 1)).toArray⟩ := by rw [extract_list]; simp
        have lW : (R.take k).length ≤ 1000 := by rw [List.length_take]; omega
        have lP : (R.drop (k + 1)).length ≤ 1000 := by rw [List.length_drop]; omega
        clear HF0 HF1 HK HX
        generalize R.take k = W at *
        generalize R.drop (k + 1) = P at *
        go_wp2_with fail
        go_quiet (fail)
        replace hb := bdrewN hb nq
        replace x2 := x2.below (bdrewN (Below.refl _ _) nq)
        have C4 := Lib.hid (eDigits (l := P) (by omega))
        cases hp : isD P
        · have HP := Lib.hid hp
          rw [hp] at C4
          clear hp
          go_wp2_with fail
          ((with_reducible refine (C4.out.of hG hb).mono ?_); rintro e w4 ⟨rfl, hb4⟩)
          replace hb := bto hb hb4
          replace x2 := x2.below hb4
          clear hb4
          have HV := Lib.hid (FF.out.p0 (by first | rfl | trivial) HP.out)
          clear FF
          have q0 := x2.c0
          have q1 := x2.c1
          have q2 := x2.f0
          have q3 := x2.f1
          go_wp2
          have hy := x2.set (.string ⟨#[]⟩) (.string ⟨#[]⟩)
          have d0 := hy.c0
          have d1 := hy.c1
          refine bodyPost_ret (v := .tuple #[.agg #[.string ⟨#[]⟩, .string ⟨#[]⟩], .int .i64 3]) (by simp [results, Tryz.results147, go_sem, d0, d1]) rfl ?_
          exact ⟨by rw [HV.out], below_set2 hb (Nat.le_refl _) _ _⟩
        · have HP := Lib.hid hp
          rw [hp] at C4
          clear hp
          go_wp2_with fail
          ((with_reducible refine (C4.out.of hG hb).mono ?_); rintro e w4 ⟨rfl, hb4⟩)
          replace hb := bto hb hb4
          replace x2 := x2.below hb4
          clear hb4
          clear kx ky hx2 hlt' e46 C4
          have C3 := Lib.hid (eDigits (l := W) (by omega))
          cases hd : isD W
          · have HD := Lib.hid hd
            rw [hd] at C3
            clear hd
            go_wp2_with fail
            ((with_reducible refine (C3.out.of hG hb).mono ?_); rintro e w3 ⟨rfl, hb3⟩)
            replace hb := bto hb hb3
            replace x2 := x2.below hb3
            clear hb3
            have HV := Lib.hid (FF.out.w0 HD.out)
            clear FF
            have q0 := x2.c0
            have q1 := x2.c1
            have q2 := x2.f0
            have q3 := x2.f1
            go_wp2
            have hy := x2.set (.string ⟨#[]⟩) (.string ⟨#[]⟩)
            have d0 := hy.c0
            have d1 := hy.c1
            refine bodyPost_ret (v := .tuple #[.agg #[.string ⟨#[]⟩, .string ⟨#[]⟩], .int .i64 3]) (by simp [results, Tryz.results147, go_sem, d0, d1]) rfl ?_
            exact ⟨by rw [HV.out], below_set2 hb (Nat.le_refl _) _ _⟩
          · have HD := Lib.hid hd
            rw [hd] at C3
            clear hd
            go_wp2_with fail
            ((with_reducible refine (C3.out.of hG hb).mono ?_); rintro e w3 ⟨rfl, hb3⟩)
            replace hb := bto hb hb3
            replace x2 := x2.below hb3
            clear hb3
            have hne : W ≠ [] := ((isD_iff W).1 HD.out).1
            have hlt : 0 < W.length := List.length_pos_iff.2 hne
            clear hne
            have hlt' : 0 < (⟨W.toArray⟩ : ByteArray).size := by show 0 < W.toArray.size; simpa using hlt
            obtain ⟨x, hx⟩ : ∃ x, x = (⟨W.toArray⟩ : ByteArray)[0] := ⟨_, rfl⟩
            have hxl : W[0]? = some x := by rw [hx]; simp [hlt]; rfl
            have HX := Lib.hid hxl
            clear hxl
            have hx2 : ∀ hp, (⟨W.toArray⟩ : ByteArray)[0]'hp = x := fun _ => hx.symm
            clear hx
            by_cases g1 : 1 < W.length
            · have g1' : decide (1 < W.length) = true := decide_eq_true g1
              by_cases hx48 : x = 48
              · have e48 : ((x.toNat : Int) == 48) = true := by rw [hx48]; rfl
                have HV := Lib.hid (FF.out.w1 x HX.out g1 hx48)
                clear FF
                have q0 := x2.c0
                have q1 := x2.c1
                have q2 := x2.f0
                have q3 := x2.f1
                go_wp2
                have hy := x2.set (.string ⟨#[]⟩) (.string ⟨#[]⟩)
                have d0 := hy.c0
                have d1 := hy.c1
                refine bodyPost_ret (v := .tuple #[.agg #[.string ⟨#[]⟩, .string ⟨#[]⟩], .int .i64 3]) (by simp [results, Tryz.results147, go_sem, d0, d1]) rfl ?_
                exact ⟨by rw [HV.out], below_set2 hb (Nat.le_refl _) _ _⟩
              · have e48 : ((x.toNat : Int) == 48) = false := byte_ne hx48
                have HWk := Lib.hid (okW_nz HD.out HX.out hx48)
                have hall := FF.out.dig HWk.out (.inr HP.out)
                have hadd := str_add W P (by omega) (by first | omega | decide)
                obtain ⟨WP, hWP⟩ : ∃ WP, WP = W ++ P := ⟨_, rfl⟩
                rw [← hWP] at hadd hall
                have hv := val_alldig hall
                have hwl : WP.length ≤ 2000 := by rw [hWP, List.length_append]; first | omega | (simp; omega)
                have HO := Lib.hid (FF.out.ok HWk.out (.inr HP.out))
                have HN0 := Lib.hid FF.out.n0
                rw [← hWP] at HO HN0
                obtain ⟨n, hn⟩ : ∃ n, n = nat WP := ⟨_, rfl⟩
                rw [← hn] at hv HO HN0
                have C5 := Lib.hid (qCanonical (l := WP) (by omega) hv)
                have hnl := canon_len_le (n : Int) WP.length (by rw [← hv]; exact val_lt WP)
                clear hall hWP hn hv
                go_wp2_with fail
                ((with_reducible refine (C5.out.of hG hb).mono ?_); rintro e w5 ⟨rfl, hb5⟩)
                replace hb := bto hb hb5
                replace x2 := x2.below hb5
                clear hb5
                clear hadd C5
                by_cases h0 : n = 0
                · obtain ⟨e1, e2⟩ := str_nil (z := (n : Int)) (by omega)
                  have HV := Lib.hid (HN0.out (by first | rfl | trivial) h0)
                  clear FF
                  have q0 := x2.c0
                  have q1 := x2.c1
                  have q2 := x2.f0
                  have q3 := x2.f1
                  go_wp2
                  have hy := x2.set (.string ⟨#[]⟩) (.string ⟨#[]⟩)
                  have d0 := hy.c0
                  have d1 := hy.c1
                  refine bodyPost_ret (v := .tuple #[.agg #[.string ⟨#[]⟩, .string ⟨#[]⟩], .int .i64 3]) (by simp [results, Tryz.results147, go_sem, d0, d1]) rfl ?_
                  exact ⟨by rw [HV.out], below_set2 hb (Nat.le_refl _) _ _⟩
                obtain ⟨e1, e2⟩ := str_ne (z := (n : Int)) (by omega)
                have hs1 := str_add [45] (canon (n : Int)) (by decide) (by omega)
                have hcn : [45] ++ canon (n : Int) = canon (-(n : Int)) := by unfold canon; rw [if_neg (by omega), if_pos (by omega), Int.natAbs_neg]; rfl
                have hnm : (canon (-(n : Int))).length ≤ 2002 := by rw [← hcn]; simp; omega
                rw [hcn] at hs1
                clear hcn
                have C6 := Lib.hid (ePower (p := P.length) (by omega))
                have C7 := Lib.hid (sNew1 (l := canon (-(n : Int))) (l' := 49 :: List.replicate P.length 48) (by first | omega | (simp; omega)) (by simp; first | done | omega) (by rw [val_one0]; exact ten_ne3 _) (fv_new (val_canon _) (val_one0 _) (ten_ne3 _)))
                have HV := Lib.hid (HO.out (.inr h0))
                clear HN0 HO FF
                generalize hTP : (49 :: List.replicate P.length (48 : UInt8)) = TP at *
                clear hTP
                simp only [if_true] at HV
                generalize fN (Rat.divInt (-(n : Int)) ((10 ^ P.length : Nat) : Int)) = N at *
                generalize fD (Rat.divInt (-(n : Int)) ((10 ^ P.length : Nat) : Int)) = D at *
                go_wp2_with fail
                ((with_reducible refine (C6.out.of hG hb).mono ?_); rintro e w6 ⟨rfl, hb6⟩)
                replace hb := bto hb hb6
                replace x2 := x2.below hb6
                clear hb6
                go_wp2_with fail
                ((with_reducible refine (C7.out.of hG hb).mono ?_); rintro e w7 ⟨rfl, hb7⟩)
                replace hb := bto hb hb7
                replace x2 := x2.below hb7
                clear hb7
                have x10 := FBox.new w7 (.string ⟨N.toArray⟩) (.string ⟨D.toArray⟩) 42
                replace x2 := x2.below (below_alloc w7 (.cells #[.string ⟨N.toArray⟩, .string ⟨D.toArray⟩] 42))
                replace hb := bto hb (below_alloc w7 (.cells #[.string ⟨N.toArray⟩, .string ⟨D.toArray⟩] 42))
                have q0 := x2.c0
                have q1 := x2.c1
                have q2 := x2.f0
                have q3 := x2.f1
                have g0 := x10.c0
                have g1 := x10.c1
                go_wp2
                have hy := x2.set (.string ⟨N.toArray⟩) (.string ⟨D.toArray⟩)
                have d0 := hy.c0
                have d1 := hy.c1
                refine bodyPost_ret (v := .tuple #[.agg #[.string ⟨N.toArray⟩, .string ⟨D.toArray⟩], .int .i64 0]) (by simp [results, Tryz.results147, go_sem, d0, d1]) rfl ?_
                exact ⟨by rw [HV.out], below_set2 hb (Nat.le_refl _) _ _⟩
            · have g1' : decide (1 < W.length) = false := decide_eq_false g1
              have HWk := Lib.hid (okW_one HD.out g1)
              have hall := FF.out.dig HWk.out (.inr HP.out)
              have hadd := str_add W P (by omega) (by first | omega | decide)
              obtain ⟨WP, hWP⟩ : ∃ WP, WP = W ++ P := ⟨_, rfl⟩
              rw [← hWP] at hadd hall
              have hv := val_alldig hall
              have hwl : WP.length ≤ 2000 := by rw [hWP, List.length_append]; first | omega | (simp; omega)
              have HO := Lib.hid (FF.out.ok HWk.out (.inr HP.out))
              have HN0 := Lib.hid FF.out.n0
              rw [← hWP] at HO HN0
              obtain ⟨n, hn⟩ : ∃ n, n = nat WP := ⟨_, rfl⟩
              rw [← hn] at hv HO HN0
              have C5 := Lib.hid (qCanonical (l := WP) (by omega) hv)
              have hnl := canon_len_le (n : Int) WP.length (by rw [← hv]; exact val_lt WP)
              clear hall hWP hn hv
              go_wp2_with fail
              ((with_reducible refine (C5.out.of hG hb).mono ?_); rintro e w5 ⟨rfl, hb5⟩)
              replace hb := bto hb hb5
              replace x2 := x2.below hb5
              clear hb5
              clear hadd C5
              by_cases h0 : n = 0
              · obtain ⟨e1, e2⟩ := str_nil (z := (n : Int)) (by omega)
                have HV := Lib.hid (HN0.out (by first | rfl | trivial) h0)
                clear FF
                have q0 := x2.c0
                have q1 := x2.c1
                have q2 := x2.f0
                have q3 := x2.f1
                go_wp2
                have hy := x2.set (.string ⟨#[]⟩) (.string ⟨#[]⟩)
                have d0 := hy.c0
                have d1 := hy.c1
                refine bodyPost_ret (v := .tuple #[.agg #[.string ⟨#[]⟩, .string ⟨#[]⟩], .int .i64 3]) (by simp [results, Tryz.results147, go_sem, d0, d1]) rfl ?_
                exact ⟨by rw [HV.out], below_set2 hb (Nat.le_refl _) _ _⟩
              obtain ⟨e1, e2⟩ := str_ne (z := (n : Int)) (by omega)
              have hs1 := str_add [45] (canon (n : Int)) (by decide) (by omega)
              have hcn : [45] ++ canon (n : Int) = canon (-(n : Int)) := by unfold canon; rw [if_neg (by omega), if_pos (by omega), Int.natAbs_neg]; rfl
              have hnm : (canon (-(n : Int))).length ≤ 2002 := by rw [← hcn]; simp; omega
              rw [hcn] at hs1
              clear hcn
              have C6 := Lib.hid (ePower (p := P.length) (by omega))
              have C7 := Lib.hid (sNew1 (l := canon (-(n : Int))) (l' := 49 :: List.replicate P.length 48) (by first | omega | (simp; omega)) (by simp; first | done | omega) (by rw [val_one0]; exact ten_ne3 _) (fv_new (val_canon _) (val_one0 _) (ten_ne3 _)))
              have HV := Lib.hid (HO.out (.inr h0))
              clear HN0 HO FF
              generalize hTP : (49 :: List.replicate P.length (48 : UInt8)) = TP at *
              clear hTP
              simp only [if_true] at HV
              generalize fN (Rat.divInt (-(n : Int)) ((10 ^ P.length : Nat) : Int)) = N at *
              generalize fD (Rat.divInt (-(n : Int)) ((10 ^ P.length : Nat) : Int)) = D at *
              go_wp2_with fail
              ((with_reducible refine (C6.out.of hG hb).mono ?_); rintro e w6 ⟨rfl, hb6⟩)
              replace hb := bto hb hb6
              replace x2 := x2.below hb6
              clear hb6
              go_wp2_with fail
              ((with_reducible refine (C7.out.of hG hb).mono ?_); rintro e w7 ⟨rfl, hb7⟩)
              replace hb := bto hb hb7
              replace x2 := x2.below hb7
              clear hb7
              have x10 := FBox.new w7 (.string ⟨N.toArray⟩) (.string ⟨D.toArray⟩) 42
              replace x2 := x2.below (below_alloc w7 (.cells #[.string ⟨N.toArray⟩, .string ⟨D.toArray⟩] 42))
              replace hb := bto hb (below_alloc w7 (.cells #[.string ⟨N.toArray⟩, .string ⟨D.toArray⟩] 42))
              have q0 := x2.c0
              have q1 := x2.c1
              have q2 := x2.f0
              have q3 := x2.f1
              have g0 := x10.c0
              have g1 := x10.c1
              go_wp2
              have hy := x2.set (.string ⟨N.toArray⟩) (.string ⟨D.toArray⟩)
              have d0 := hy.c0
              have d1 := hy.c1
              refine bodyPost_ret (v := .tuple #[.agg #[.string ⟨N.toArray⟩, .string ⟨D.toArray⟩], .int .i64 0]) (by simp [results, Tryz.results147, go_sem, d0, d1]) rfl ?_
              exact ⟨by rw [HV.out], below_set2 hb (Nat.le_refl _) _ _⟩
      · have e46 : ((x.toNat : Int) == 46) = false := byte_ne h46
        have HK2 : Hid (46 ∉ R.take (k + 1)) := by
          obtain ⟨hk', hk2⟩ := List.getElem?_eq_some_iff.1 HX.out
          show 46 ∉ R.take (k + 1)
          rw [List.take_succ_eq_append_getElem hk', hk2, List.mem_append]
          exact fun h => h.elim HK.out (fun h1 => h46 (List.mem_singleton.1 h1).symm)
        clear h46
        go_wp2
        go_round
        case rel => exact ⟨k + 1, by omega, rfl, rfl, by go_num, HK2⟩
        case measure => simp [intOf]; omega
    · have hno : 46 ∉ R := by have := HK.out; rwa [List.take_of_length_le (by omega)] at this
      have FF := Lib.hid (HF0.out hno)
      clear HF0 HF1 HK hno
      obtain ⟨W, hW⟩ : ∃ W, W = R := ⟨_, rfl⟩
      subst hW
      have C3 := Lib.hid (eDigits (l := W) (by omega))
      cases hd : isD W
      · have HD := Lib.hid hd
        rw [hd] at C3
        clear hd
        go_wp2_with fail
        ((with_reducible refine (C3.out.of hG hb).mono ?_); rintro e w3 ⟨rfl, hb3⟩)
        replace hb := bto hb hb3
        replace x2 := x2.below hb3
        clear hb3
        have HV := Lib.hid (FF.out.w0 HD.out)
        clear FF
        have q0 := x2.c0
        have q1 := x2.c1
        have q2 := x2.f0
        have q3 := x2.f1
        go_wp2
        have hy := x2.set (.string ⟨#[]⟩) (.string ⟨#[]⟩)
        have d0 := hy.c0
        have d1 := hy.c1
        refine bodyPost_ret (v := .tuple #[.agg #[.string ⟨#[]⟩, .string ⟨#[]⟩], .int .i64 3]) (by simp [results, Tryz.results147, go_sem, d0, d1]) rfl ?_
        exact ⟨by rw [HV.out], below_set2 hb (Nat.le_refl _) _ _⟩
      · have HD := Lib.hid hd
        rw [hd] at C3
        clear hd
        go_wp2_with fail
        ((with_reducible refine (C3.out.of hG hb).mono ?_); rintro e w3 ⟨rfl, hb3⟩)
        replace hb := bto hb hb3
        replace x2 := x2.below hb3
        clear hb3
        have hne : W ≠ [] := ((isD_iff W).1 HD.out).1
        have hlt : 0 < W.length := List.length_pos_iff.2 hne
        clear hne
        have hlt' : 0 < (⟨W.toArray⟩ : ByteArray).size := by show 0 < W.toArray.size; simpa using hlt
        obtain ⟨x, hx⟩ : ∃ x, x = (⟨W.toArray⟩ : ByteArray)[0] := ⟨_, rfl⟩
        have hxl : W[0]? = some x := by rw [hx]; simp [hlt]; rfl
        have HX := Lib.hid hxl
        clear hxl
        have hx2 : ∀ hp, (⟨W.toArray⟩ : ByteArray)[0]'hp = x := fun _ => hx.symm
        clear hx
        by_cases g1 : 1 < W.length
        · have g1' : decide (1 < W.length) = true := decide_eq_true g1
          by_cases hx48 : x = 48
          · have e48 : ((x.toNat : Int) == 48) = true := by rw [hx48]; rfl
            have HV := Lib.hid (FF.out.w1 x HX.out g1 hx48)
            clear FF
            have q0 := x2.c0
            have q1 := x2.c1
            have q2 := x2.f0
            have q3 := x2.f1
            go_wp2
            have hy := x2.set (.string ⟨#[]⟩) (.string ⟨#[]⟩)
            have d0 := hy.c0
            have d1 := hy.c1
            refine bodyPost_ret (v := .tuple #[.agg #[.string ⟨#[]⟩, .string ⟨#[]⟩], .int .i64 3]) (by simp [results, Tryz.results147, go_sem, d0, d1]) rfl ?_
            exact ⟨by rw [HV.out], below_set2 hb (Nat.le_refl _) _ _⟩
          · have e48 : ((x.toNat : Int) == 48) = false := byte_ne hx48
            have HWk := Lib.hid (okW_nz HD.out HX.out hx48)
            have hall := FF.out.dig HWk.out (by first | exact .inl rfl | exact .inl trivial)
            have hadd := str_add W [] (by omega) (by first | omega | decide)
            obtain ⟨WP, hWP⟩ : ∃ WP, WP = W ++ [] := ⟨_, rfl⟩
            rw [← hWP] at hadd hall
            have hv := val_alldig hall
            have hwl : WP.length ≤ 2000 := by rw [hWP, List.length_append]; first | omega | (simp; omega)
            have HO := Lib.hid (FF.out.ok HWk.out (by first | exact .inl rfl | exact .inl trivial))
            have HN0 := Lib.hid FF.out.n0
            rw [← hWP] at HO HN0
            obtain ⟨n, hn⟩ : ∃ n, n = nat WP := ⟨_, rfl⟩
            rw [← hn] at hv HO HN0
            have C5 := Lib.hid (qCanonical (l := WP) (by omega) hv)
            have hnl := canon_len_le (n : Int) WP.length (by rw [← hv]; exact val_lt WP)
            clear hall hWP hn hv
            go_wp2_with fail
            ((with_reducible refine (C5.out.of hG hb).mono ?_); rintro e w5 ⟨rfl, hb5⟩)
            replace hb := bto hb hb5
            replace x2 := x2.below hb5
            clear hb5
            clear hadd C5
            by_cases h0 : n = 0
            · obtain ⟨e1, e2⟩ := str_nil (z := (n : Int)) (by omega)
              have HV := Lib.hid (HN0.out (by first | rfl | trivial) h0)
              clear FF
              have q0 := x2.c0
              have q1 := x2.c1
              have q2 := x2.f0
              have q3 := x2.f1
              go_wp2
              have hy := x2.set (.string ⟨#[]⟩) (.string ⟨#[]⟩)
              have d0 := hy.c0
              have d1 := hy.c1
              refine bodyPost_ret (v := .tuple #[.agg #[.string ⟨#[]⟩, .string ⟨#[]⟩], .int .i64 3]) (by simp [results, Tryz.results147, go_sem, d0, d1]) rfl ?_
              exact ⟨by rw [HV.out], below_set2 hb (Nat.le_refl _) _ _⟩
            obtain ⟨e1, e2⟩ := str_ne (z := (n : Int)) (by omega)
            have hs1 := str_add [45] (canon (n : Int)) (by decide) (by omega)
            have hcn : [45] ++ canon (n : Int) = canon (-(n : Int)) := by unfold canon; rw [if_neg (by omega), if_pos (by omega), Int.natAbs_neg]; rfl
            have hnm : (canon (-(n : Int))).length ≤ 2002 := by rw [← hcn]; simp; omega
            rw [hcn] at hs1
            clear hcn
            have c6 := ePower (p := 0) (by decide)
            rw [show ((0 : Nat) : Int) = 0 from rfl] at c6
            have C6 := Lib.hid c6
            clear c6
            have C7 := Lib.hid (sNew1 (l := canon (-(n : Int))) (l' := 49 :: List.replicate 0 48) (by first | omega | (simp; omega)) (by simp; first | done | omega) (by rw [val_one0]; exact ten_ne3 _) (fv_new (val_canon _) (val_one0 _) (ten_ne3 _)))
            have HV := Lib.hid (HO.out (.inr h0))
            clear HN0 HO FF
            rw [show (([] : List UInt8)).length = 0 from rfl] at HV
            generalize hTP : (49 :: List.replicate 0 (48 : UInt8)) = TP at *
            clear hTP
            simp only [if_true] at HV
            generalize fN (Rat.divInt (-(n : Int)) ((10 ^ 0 : Nat) : Int)) = N at *
            generalize fD (Rat.divInt (-(n : Int)) ((10 ^ 0 : Nat) : Int)) = D at *
            go_wp2_with fail
            ((with_reducible refine (C6.out.of hG hb).mono ?_); rintro e w6 ⟨rfl, hb6⟩)
            replace hb := bto hb hb6
            replace x2 := x2.below hb6
            clear hb6
            go_wp2_with fail
            ((with_reducible refine (C7.out.of hG hb).mono ?_); rintro e w7 ⟨rfl, hb7⟩)
            replace hb := bto hb hb7
            replace x2 := x2.below hb7
            clear hb7
            have x10 := FBox.new w7 (.string ⟨N.toArray⟩) (.string ⟨D.toArray⟩) 42
            replace x2 := x2.below (below_alloc w7 (.cells #[.string ⟨N.toArray⟩, .string ⟨D.toArray⟩] 42))
            replace hb := bto hb (below_alloc w7 (.cells #[.string ⟨N.toArray⟩, .string ⟨D.toArray⟩] 42))
            have q0 := x2.c0
            have q1 := x2.c1
            have q2 := x2.f0
            have q3 := x2.f1
            have g0 := x10.c0
            have g1 := x10.c1
            go_wp2
            have hy := x2.set (.string ⟨N.toArray⟩) (.string ⟨D.toArray⟩)
            have d0 := hy.c0
            have d1 := hy.c1
            refine bodyPost_ret (v := .tuple #[.agg #[.string ⟨N.toArray⟩, .string ⟨D.toArray⟩], .int .i64 0]) (by simp [results, Tryz.results147, go_sem, d0, d1]) rfl ?_
            exact ⟨by rw [HV.out], below_set2 hb (Nat.le_refl _) _ _⟩
        · have g1' : decide (1 < W.length) = false := decide_eq_false g1
          have HWk := Lib.hid (okW_one HD.out g1)
          have hall := FF.out.dig HWk.out (by first | exact .inl rfl | exact .inl trivial)
          have hadd := str_add W [] (by omega) (by first | omega | decide)
          obtain ⟨WP, hWP⟩ : ∃ WP, WP = W ++ [] := ⟨_, rfl⟩
          rw [← hWP] at hadd hall
          have hv := val_alldig hall
          have hwl : WP.length ≤ 2000 := by rw [hWP, List.length_append]; first | omega | (simp; omega)
          have HO := Lib.hid (FF.out.ok HWk.out (by first | exact .inl rfl | exact .inl trivial))
          have HN0 := Lib.hid FF.out.n0
          rw [← hWP] at HO HN0
          obtain ⟨n, hn⟩ : ∃ n, n = nat WP := ⟨_, rfl⟩
          rw [← hn] at hv HO HN0
          have C5 := Lib.hid (qCanonical (l := WP) (by omega) hv)
          have hnl := canon_len_le (n : Int) WP.length (by rw [← hv]; exact val_lt WP)
          clear hall hWP hn hv
          go_wp2_with fail
          ((with_reducible refine (C5.out.of hG hb).mono ?_); rintro e w5 ⟨rfl, hb5⟩)
          replace hb := bto hb hb5
          replace x2 := x2.below hb5
          clear hb5
          clear hadd C5
          by_cases h0 : n = 0
          · obtain ⟨e1, e2⟩ := str_nil (z := (n : Int)) (by omega)
            have HV := Lib.hid (HN0.out (by first | rfl | trivial) h0)
            clear FF
            have q0 := x2.c0
            have q1 := x2.c1
            have q2 := x2.f0
            have q3 := x2.f1
            go_wp2
            have hy := x2.set (.string ⟨#[]⟩) (.string ⟨#[]⟩)
            have d0 := hy.c0
            have d1 := hy.c1
            refine bodyPost_ret (v := .tuple #[.agg #[.string ⟨#[]⟩, .string ⟨#[]⟩], .int .i64 3]) (by simp [results, Tryz.results147, go_sem, d0, d1]) rfl ?_
            exact ⟨by rw [HV.out], below_set2 hb (Nat.le_refl _) _ _⟩
          obtain ⟨e1, e2⟩ := str_ne (z := (n : Int)) (by omega)
          have hs1 := str_add [45] (canon (n : Int)) (by decide) (by omega)
          have hcn : [45] ++ canon (n : Int) = canon (-(n : Int)) := by unfold canon; rw [if_neg (by omega), if_pos (by omega), Int.natAbs_neg]; rfl
          have hnm : (canon (-(n : Int))).length ≤ 2002 := by rw [← hcn]; simp; omega
          rw [hcn] at hs1
          clear hcn
          have c6 := ePower (p := 0) (by decide)
          rw [show ((0 : Nat) : Int) = 0 from rfl] at c6
          have C6 := Lib.hid c6
          clear c6
          have C7 := Lib.hid (sNew1 (l := canon (-(n : Int))) (l' := 49 :: List.replicate 0 48) (by first | omega | (simp; omega)) (by simp; first | done | omega) (by rw [val_one0]; exact ten_ne3 _) (fv_new (val_canon _) (val_one0 _) (ten_ne3 _)))
          have HV := Lib.hid (HO.out (.inr h0))
          clear HN0 HO FF
          rw [show (([] : List UInt8)).length = 0 from rfl] at HV
          generalize hTP : (49 :: List.replicate 0 (48 : UInt8)) = TP at *
          clear hTP
          simp only [if_true] at HV
          generalize fN (Rat.divInt (-(n : Int)) ((10 ^ 0 : Nat) : Int)) = N at *
          generalize fD (Rat.divInt (-(n : Int)) ((10 ^ 0 : Nat) : Int)) = D at *
          go_wp2_with fail
          ((with_reducible refine (C6.out.of hG hb).mono ?_); rintro e w6 ⟨rfl, hb6⟩)
          replace hb := bto hb hb6
          replace x2 := x2.below hb6
          clear hb6
          go_wp2_with fail
          ((with_reducible refine (C7.out.of hG hb).mono ?_); rintro e w7 ⟨rfl, hb7⟩)
          replace hb := bto hb hb7
          replace x2 := x2.below hb7
          clear hb7
          have x10 := FBox.new w7 (.string ⟨N.toArray⟩) (.string ⟨D.toArray⟩) 42
          replace x2 := x2.below (below_alloc w7 (.cells #[.string ⟨N.toArray⟩, .string ⟨D.toArray⟩] 42))
          replace hb := bto hb (below_alloc w7 (.cells #[.string ⟨N.toArray⟩, .string ⟨D.toArray⟩] 42))
          have q0 := x2.c0
          have q1 := x2.c1
          have q2 := x2.f0
          have q3 := x2.f1
          have g0 := x10.c0
          have g1 := x10.c1
          go_wp2
          have hy := x2.set (.string ⟨N.toArray⟩) (.string ⟨D.toArray⟩)
          have d0 := hy.c0
          have d1 := hy.c1
          refine bodyPost_ret (v := .tuple #[.agg #[.string ⟨N.toArray⟩, .string ⟨D.toArray⟩], .int .i64 0]) (by simp [results, Tryz.results147, go_sem, d0, d1]) rfl ?_
          exact ⟨by rw [HV.out], below_set2 hb (Nat.le_refl _) _ _⟩
set_option maxHeartbeats 8000000 in
set_option maxRecDepth 100000 in
theorem eFrac_p {R : List UInt8} (hs : R.length ≤ 1000) (hneg : isNeg R = false) (hne : R ≠ []) : Ret 147 #[.string ⟨R.toArray⟩] (FracV R) := fun w hG => by
  have k0 : decide (65536 < R.length) = false := decide_eq_false (by omega)
  have k00 : ¬ 65536 < R.length := by omega
  have hRl : R.length ≤ 1000 := by omega
  have hrest : rest R = R := by unfold rest; rw [hneg]; rfl
  have hnb : (R == []) = false := by rw [beq_eq_false_iff_ne]; exact hne
  have hni : R.isEmpty = false := by rw [List.isEmpty_eq_false_iff]; exact hne
  have hlt0 : 0 < R.length := List.length_pos_iff.2 hne
  have hlt0' : 0 < (⟨R.toArray⟩ : ByteArray).size := by show 0 < R.toArray.size; simpa using hlt0
  obtain ⟨y, hy⟩ : ∃ y, y = (⟨R.toArray⟩ : ByteArray)[0] := ⟨_, rfl⟩
  have hyl : R[0]? = some y := by rw [hy]; simp [hlt0]; rfl
  have hy2 : ∀ hp, (⟨R.toArray⟩ : ByteArray)[0]'hp = y := fun _ => hy.symm
  have hy45 : ((y.toNat : Int) == 45) = false := byte_ne (x := y) (c := 45) (fun h => by
    have h1 : isNeg R = true := by unfold isNeg; rw [List.head?_eq_getElem?, hyl, h]; rfl
    rw [hneg] at h1; cases h1)
  clear hy hyl hne
  have hb := below_alloc w (.cells #[.string ⟨#[]⟩, .string ⟨#[]⟩] 42)
  have x2 := FBox.new w (.string ⟨#[]⟩) (.string ⟨#[]⟩) 42
  have HF0 : Hid (46 ∉ R → FracF R R [] false false) := fun h => by
    obtain ⟨a1, a2, a3⟩ := cut_parts hrest (cut46_none h)
    exact fracF a1 a2 a3 hneg
  have HF1 : Hid (∀ k, 46 ∉ R.take k → R[k]? = some 46 → FracF R (R.take k) (R.drop (k + 1)) true false) := fun k h hk => by
    obtain ⟨hk', hk2⟩ := List.getElem?_eq_some_iff.1 hk
    have e : R = R.take k ++ 46 :: R.drop (k + 1) := by rw [← hk2, ← List.drop_eq_getElem_cons hk', List.take_append_drop]
    have hcut : Lib.cut R [46] = (R.take k, R.drop (k + 1), true) := by have := cut46_at (R.drop (k + 1)) h; rwa [← e] at this
    obtain ⟨a1, a2, a3⟩ := cut_parts hrest hcut
    exact fracF a1 a2 a3 hneg
  clear hrest hneg hs
  go_enter Tryz.func147, Tryz.ntmps147
  go_wp2_with fail
  clear k0 k00 hnb hni hlt0 hlt0' hy2 hy45
  go_loop [6, 7, 8] (fun wv pv iv => ∃ k : Nat, k ≤ R.length ∧ wv = .string ⟨R.toArray⟩ ∧ pv = .string ⟨#[]⟩ ∧ iv = .int .i64 (k : Int) ∧ Hid (46 ∉ R.take k)) (fun _ _ iv => R.length - (intOf iv).toNat)
  case atStart => exact ⟨0, Nat.zero_le _, rfl, rfl, rfl, by show 46 ∉ R.take 0; simp⟩
  case round =>
    obtain ⟨k, hk, rfl, rfl, rfl, HK⟩ := hrel
    by_cases hlt : k < R.length
    · have hlt' : k < (⟨R.toArray⟩ : ByteArray).size := by show k < R.toArray.size; simpa using hlt
      obtain ⟨x, hx⟩ : ∃ x, x = (⟨R.toArray⟩ : ByteArray)[k] := ⟨_, rfl⟩
      have hxl : R[k]? = some x := by rw [hx]; simp [hlt]; rfl
      have HX := Lib.hid hxl
      clear hxl
      have hx2 : ∀ hp, (⟨R.toArray⟩ : ByteArray)[k]'hp = x := fun _ => hx.symm
      clear hx
      by_cases h46 : x = 46
      · have e46 : ((x.toNat : Int) == 46) = true := by rw [h46]; rfl
        have FF := Lib.hid (HF1.out k HK.out (by rw [HX.out, h46]))
        have kx : (⟨R.toArray⟩ : ByteArray).extract 0 k = ⟨(R.take k).toArray⟩ := by rw [extract_list]; simp
        have ky : (⟨R.toArray⟩ : ByteArray).extract (k + 1) R.length = ⟨(R.drop (k + 1)).toArray⟩ := by rw [extract_list]; simp
        have lW : (R.take k).length ≤ 1000 := by rw [List.length_take]; omega
        have lP : (R.drop (k + 1)).length ≤ 1000 := by rw [List.length_drop]; omega
        clear HF0 HF1 HK HX
        generalize R.take k = W at *
        generalize R.drop (k + 1) = P at *
        go_wp2_with fail
        go_quiet (fail)
        replace hb := bdrewN hb nq
        replace x2 := x2.below (bdrewN (Below.refl _ _) nq)
        have C4 := Lib.hid (eDigits (l := P) (by omega))
        cases hp : isD P
        · have HP := Lib.hid hp
          rw [hp] at C4
          clear hp
          go_wp2_with fail
          ((with_reducible refine (C4.out.of hG hb).mono ?_); rintro e w4 ⟨rfl, hb4⟩)
          replace hb := bto hb hb4
          replace x2 := x2.below hb4
          clear hb4
          have HV := Lib.hid (FF.out.p0 (by first | rfl | trivial) HP.out)
          clear FF
          have q0 := x2.c0
          have q1 := x2.c1
          have q2 := x2.f0
          have q3 := x2.f1
          go_wp2
          have hy := x2.set (.string ⟨#[]⟩) (.string ⟨#[]⟩)
          have d0 := hy.c0
          have d1 := hy.c1
          refine bodyPost_ret (v := .tuple #[.agg #[.string ⟨#[]⟩, .string ⟨#[]⟩], .int .i64 3]) (by simp [results, Tryz.results147, go_sem, d0, d1]) rfl ?_
          exact ⟨by rw [HV.out], below_set2 hb (Nat.le_refl _) _ _⟩
        · have HP := Lib.hid hp
          rw [hp] at C4
          clear hp
          go_wp2_with fail
          ((with_reducible refine (C4.out.of hG hb).mono ?_); rintro e w4 ⟨rfl, hb4⟩)
          replace hb := bto hb hb4
          replace x2 := x2.below hb4
          clear hb4
          clear kx ky hx2 hlt' e46 C4
          have C3 := Lib.hid (eDigits (l := W) (by omega))
          cases hd : isD W
          · have HD := Lib.hid hd
            rw [hd] at C3
            clear hd
            go_wp2_with fail
            ((with_reducible refine (C3.out.of hG hb).mono ?_); rintro e w3 ⟨rfl, hb3⟩)
            replace hb := bto hb hb3
            replace x2 := x2.below hb3
            clear hb3
            have HV := Lib.hid (FF.out.w0 HD.out)
            clear FF
            have q0 := x2.c0
            have q1 := x2.c1
            have q2 := x2.f0
            have q3 := x2.f1
            go_wp2
            have hy := x2.set (.string ⟨#[]⟩) (.string ⟨#[]⟩)
            have d0 := hy.c0
            have d1 := hy.c1
            refine bodyPost_ret (v := .tuple #[.agg #[.string ⟨#[]⟩, .string ⟨#[]⟩], .int .i64 3]) (by simp [results, Tryz.results147, go_sem, d0, d1]) rfl ?_
            exact ⟨by rw [HV.out], below_set2 hb (Nat.le_refl _) _ _⟩
          · have HD := Lib.hid hd
            rw [hd] at C3
            clear hd
            go_wp2_with fail
            ((with_reducible refine (C3.out.of hG hb).mono ?_); rintro e w3 ⟨rfl, hb3⟩)
            replace hb := bto hb hb3
            replace x2 := x2.below hb3
            clear hb3
            have hne : W ≠ [] := ((isD_iff W).1 HD.out).1
            have hlt : 0 < W.length := List.length_pos_iff.2 hne
            clear hne
            have hlt' : 0 < (⟨W.toArray⟩ : ByteArray).size := by show 0 < W.toArray.size; simpa using hlt
            obtain ⟨x, hx⟩ : ∃ x, x = (⟨W.toArray⟩ : ByteArray)[0] := ⟨_, rfl⟩
            have hxl : W[0]? = some x := by rw [hx]; simp [hlt]; rfl
            have HX := Lib.hid hxl
            clear hxl
            have hx2 : ∀ hp, (⟨W.toArray⟩ : ByteArray)[0]'hp = x := fun _ => hx.symm
            clear hx
            by_cases g1 : 1 < W.length
            · have g1' : decide (1 < W.length) = true := decide_eq_true g1
              by_cases hx48 : x = 48
              · have e48 : ((x.toNat : Int) == 48) = true := by rw [hx48]; rfl
                have HV := Lib.hid (FF.out.w1 x HX.out g1 hx48)
                clear FF
                have q0 := x2.c0
                have q1 := x2.c1
                have q2 := x2.f0
                have q3 := x2.f1
                go_wp2
                have hy := x2.set (.string ⟨#[]⟩) (.string ⟨#[]⟩)
                have d0 := hy.c0
                have d1 := hy.c1
                refine bodyPost_ret (v := .tuple #[.agg #[.string ⟨#[]⟩, .string ⟨#[]⟩], .int .i64 3]) (by simp [results, Tryz.results147, go_sem, d0, d1]) rfl ?_
                exact ⟨by rw [HV.out], below_set2 hb (Nat.le_refl _) _ _⟩
              · have e48 : ((x.toNat : Int) == 48) = false := byte_ne hx48
                have HWk := Lib.hid (okW_nz HD.out HX.out hx48)
                have hall := FF.out.dig HWk.out (.inr HP.out)
                have hadd := str_add W P (by omega) (by first | omega | decide)
                obtain ⟨WP, hWP⟩ : ∃ WP, WP = W ++ P := ⟨_, rfl⟩
                rw [← hWP] at hadd hall
                have hv := val_alldig hall
                have hwl : WP.length ≤ 2000 := by rw [hWP, List.length_append]; first | omega | (simp; omega)
                have HO := Lib.hid (FF.out.ok HWk.out (.inr HP.out))
                have HN0 := Lib.hid FF.out.n0
                rw [← hWP] at HO HN0
                obtain ⟨n, hn⟩ : ∃ n, n = nat WP := ⟨_, rfl⟩
                rw [← hn] at hv HO HN0
                have C5 := Lib.hid (qCanonical (l := WP) (by omega) hv)
                have hnl := canon_len_le (n : Int) WP.length (by rw [← hv]; exact val_lt WP)
                clear hall hWP hn hv
                go_wp2_with fail
                ((with_reducible refine (C5.out.of hG hb).mono ?_); rintro e w5 ⟨rfl, hb5⟩)
                replace hb := bto hb hb5
                replace x2 := x2.below hb5
                clear hb5
                clear hadd C5
                have hs1 := str_add [] (canon (n : Int)) (by decide) (by omega)
                rw [List.nil_append] at hs1
                have C6 := Lib.hid (ePower (p := P.length) (by omega))
                have C7 := Lib.hid (sNew1 (l := canon (n : Int)) (l' := 49 :: List.replicate P.length 48) (by first | omega | (simp; omega)) (by simp; first | done | omega) (by rw [val_one0]; exact ten_ne3 _) (fv_new (val_canon _) (val_one0 _) (ten_ne3 _)))
                have HV := Lib.hid (HO.out (by first | exact .inl rfl | exact .inl trivial))
                clear HN0 HO FF
                generalize hTP : (49 :: List.replicate P.length (48 : UInt8)) = TP at *
                clear hTP
                simp only [Bool.false_eq_true, if_false] at HV
                generalize fN (Rat.divInt (n : Int) ((10 ^ P.length : Nat) : Int)) = N at *
                generalize fD (Rat.divInt (n : Int) ((10 ^ P.length : Nat) : Int)) = D at *
                go_wp2_with fail
                ((with_reducible refine (C6.out.of hG hb).mono ?_); rintro e w6 ⟨rfl, hb6⟩)
                replace hb := bto hb hb6
                replace x2 := x2.below hb6
                clear hb6
                go_wp2_with fail
                ((with_reducible refine (C7.out.of hG hb).mono ?_); rintro e w7 ⟨rfl, hb7⟩)
                replace hb := bto hb hb7
                replace x2 := x2.below hb7
                clear hb7
                have x10 := FBox.new w7 (.string ⟨N.toArray⟩) (.string ⟨D.toArray⟩) 42
                replace x2 := x2.below (below_alloc w7 (.cells #[.string ⟨N.toArray⟩, .string ⟨D.toArray⟩] 42))
                replace hb := bto hb (below_alloc w7 (.cells #[.string ⟨N.toArray⟩, .string ⟨D.toArray⟩] 42))
                have q0 := x2.c0
                have q1 := x2.c1
                have q2 := x2.f0
                have q3 := x2.f1
                have g0 := x10.c0
                have g1 := x10.c1
                go_wp2
                have hy := x2.set (.string ⟨N.toArray⟩) (.string ⟨D.toArray⟩)
                have d0 := hy.c0
                have d1 := hy.c1
                refine bodyPost_ret (v := .tuple #[.agg #[.string ⟨N.toArray⟩, .string ⟨D.toArray⟩], .int .i64 0]) (by simp [results, Tryz.results147, go_sem, d0, d1]) rfl ?_
                exact ⟨by rw [HV.out], below_set2 hb (Nat.le_refl _) _ _⟩
            · have g1' : decide (1 < W.length) = false := decide_eq_false g1
              have HWk := Lib.hid (okW_one HD.out g1)
              have hall := FF.out.dig HWk.out (.inr HP.out)
              have hadd := str_add W P (by omega) (by first | omega | decide)
              obtain ⟨WP, hWP⟩ : ∃ WP, WP = W ++ P := ⟨_, rfl⟩
              rw [← hWP] at hadd hall
              have hv := val_alldig hall
              have hwl : WP.length ≤ 2000 := by rw [hWP, List.length_append]; first | omega | (simp; omega)
              have HO := Lib.hid (FF.out.ok HWk.out (.inr HP.out))
              have HN0 := Lib.hid FF.out.n0
              rw [← hWP] at HO HN0
              obtain ⟨n, hn⟩ : ∃ n, n = nat WP := ⟨_, rfl⟩
              rw [← hn] at hv HO HN0
              have C5 := Lib.hid (qCanonical (l := WP) (by omega) hv)
              have hnl := canon_len_le (n : Int) WP.length (by rw [← hv]; exact val_lt WP)
              clear hall hWP hn hv
              go_wp2_with fail
              ((with_reducible refine (C5.out.of hG hb).mono ?_); rintro e w5 ⟨rfl, hb5⟩)
              replace hb := bto hb hb5
              replace x2 := x2.below hb5
              clear hb5
              clear hadd C5
              have hs1 := str_add [] (canon (n : Int)) (by decide) (by omega)
              rw [List.nil_append] at hs1
              have C6 := Lib.hid (ePower (p := P.length) (by omega))
              have C7 := Lib.hid (sNew1 (l := canon (n : Int)) (l' := 49 :: List.replicate P.length 48) (by first | omega | (simp; omega)) (by simp; first | done | omega) (by rw [val_one0]; exact ten_ne3 _) (fv_new (val_canon _) (val_one0 _) (ten_ne3 _)))
              have HV := Lib.hid (HO.out (by first | exact .inl rfl | exact .inl trivial))
              clear HN0 HO FF
              generalize hTP : (49 :: List.replicate P.length (48 : UInt8)) = TP at *
              clear hTP
              simp only [Bool.false_eq_true, if_false] at HV
              generalize fN (Rat.divInt (n : Int) ((10 ^ P.length : Nat) : Int)) = N at *
              generalize fD (Rat.divInt (n : Int) ((10 ^ P.length : Nat) : Int)) = D at *
              go_wp2_with fail
              ((with_reducible refine (C6.out.of hG hb).mono ?_); rintro e w6 ⟨rfl, hb6⟩)
              replace hb := bto hb hb6
              replace x2 := x2.below hb6
              clear hb6
              go_wp2_with fail
              ((with_reducible refine (C7.out.of hG hb).mono ?_); rintro e w7 ⟨rfl, hb7⟩)
              replace hb := bto hb hb7
              replace x2 := x2.below hb7
              clear hb7
              have x10 := FBox.new w7 (.string ⟨N.toArray⟩) (.string ⟨D.toArray⟩) 42
              replace x2 := x2.below (below_alloc w7 (.cells #[.string ⟨N.toArray⟩, .string ⟨D.toArray⟩] 42))
              replace hb := bto hb (below_alloc w7 (.cells #[.string ⟨N.toArray⟩, .string ⟨D.toArray⟩] 42))
              have q0 := x2.c0
              have q1 := x2.c1
              have q2 := x2.f0
              have q3 := x2.f1
              have g0 := x10.c0
              have g1 := x10.c1
              go_wp2
              have hy := x2.set (.string ⟨N.toArray⟩) (.string ⟨D.toArray⟩)
              have d0 := hy.c0
              have d1 := hy.c1
              refine bodyPost_ret (v := .tuple #[.agg #[.string ⟨N.toArray⟩, .string ⟨D.toArray⟩], .int .i64 0]) (by simp [results, Tryz.results147, go_sem, d0, d1]) rfl ?_
              exact ⟨by rw [HV.out], below_set2 hb (Nat.le_refl _) _ _⟩
      · have e46 : ((x.toNat : Int) == 46) = false := byte_ne h46
        have HK2 : Hid (46 ∉ R.take (k + 1)) := by
          obtain ⟨hk', hk2⟩ := List.getElem?_eq_some_iff.1 HX.out
          show 46 ∉ R.take (k + 1)
          rw [List.take_succ_eq_append_getElem hk', hk2, List.mem_append]
          exact fun h => h.elim HK.out (fun h1 => h46 (List.mem_singleton.1 h1).symm)
        clear h46
        go_wp2
        go_round
        case rel => exact ⟨k + 1, by omega, rfl, rfl, by go_num, HK2⟩
        case measure => simp [intOf]; omega
    · have hno : 46 ∉ R := by have := HK.out; rwa [List.take_of_length_le (by omega)] at this
      have FF := Lib.hid (HF0.out hno)
      clear HF0 HF1 HK hno
      obtain ⟨W, hW⟩ : ∃ W, W = R := ⟨_, rfl⟩
      subst hW
      have C3 := Lib.hid (eDigits (l := W) (by omega))
      cases hd : isD W
      · have HD := Lib.hid hd
        rw [hd] at C3
        clear hd
        go_wp2_with fail
        ((with_reducible refine (C3.out.of hG hb).mono ?_); rintro e w3 ⟨rfl, hb3⟩)
        replace hb := bto hb hb3
        replace x2 := x2.below hb3
        clear hb3
        have HV := Lib.hid (FF.out.w0 HD.out)
        clear FF
        have q0 := x2.c0
        have q1 := x2.c1
        have q2 := x2.f0
        have q3 := x2.f1
        go_wp2
        have hy := x2.set (.string ⟨#[]⟩) (.string ⟨#[]⟩)
        have d0 := hy.c0
        have d1 := hy.c1
        refine bodyPost_ret (v := .tuple #[.agg #[.string ⟨#[]⟩, .string ⟨#[]⟩], .int .i64 3]) (by simp [results, Tryz.results147, go_sem, d0, d1]) rfl ?_
        exact ⟨by rw [HV.out], below_set2 hb (Nat.le_refl _) _ _⟩
      · have HD := Lib.hid hd
        rw [hd] at C3
        clear hd
        go_wp2_with fail
        ((with_reducible refine (C3.out.of hG hb).mono ?_); rintro e w3 ⟨rfl, hb3⟩)
        replace hb := bto hb hb3
        replace x2 := x2.below hb3
        clear hb3
        have hne : W ≠ [] := ((isD_iff W).1 HD.out).1
        have hlt : 0 < W.length := List.length_pos_iff.2 hne
        clear hne
        have hlt' : 0 < (⟨W.toArray⟩ : ByteArray).size := by show 0 < W.toArray.size; simpa using hlt
        obtain ⟨x, hx⟩ : ∃ x, x = (⟨W.toArray⟩ : ByteArray)[0] := ⟨_, rfl⟩
        have hxl : W[0]? = some x := by rw [hx]; simp [hlt]; rfl
        have HX := Lib.hid hxl
        clear hxl
        have hx2 : ∀ hp, (⟨W.toArray⟩ : ByteArray)[0]'hp = x := fun _ => hx.symm
        clear hx
        by_cases g1 : 1 < W.length
        · have g1' : decide (1 < W.length) = true := decide_eq_true g1
          by_cases hx48 : x = 48
          · have e48 : ((x.toNat : Int) == 48) = true := by rw [hx48]; rfl
            have HV := Lib.hid (FF.out.w1 x HX.out g1 hx48)
            clear FF
            have q0 := x2.c0
            have q1 := x2.c1
            have q2 := x2.f0
            have q3 := x2.f1
            go_wp2
            have hy := x2.set (.string ⟨#[]⟩) (.string ⟨#[]⟩)
            have d0 := hy.c0
            have d1 := hy.c1
            refine bodyPost_ret (v := .tuple #[.agg #[.string ⟨#[]⟩, .string ⟨#[]⟩], .int .i64 3]) (by simp [results, Tryz.results147, go_sem, d0, d1]) rfl ?_
            exact ⟨by rw [HV.out], below_set2 hb (Nat.le_refl _) _ _⟩
          · have e48 : ((x.toNat : Int) == 48) = false := byte_ne hx48
            have HWk := Lib.hid (okW_nz HD.out HX.out hx48)
            have hall := FF.out.dig HWk.out (by first | exact .inl rfl | exact .inl trivial)
            have hadd := str_add W [] (by omega) (by first | omega | decide)
            obtain ⟨WP, hWP⟩ : ∃ WP, WP = W ++ [] := ⟨_, rfl⟩
            rw [← hWP] at hadd hall
            have hv := val_alldig hall
            have hwl : WP.length ≤ 2000 := by rw [hWP, List.length_append]; first | omega | (simp; omega)
            have HO := Lib.hid (FF.out.ok HWk.out (by first | exact .inl rfl | exact .inl trivial))
            have HN0 := Lib.hid FF.out.n0
            rw [← hWP] at HO HN0
            obtain ⟨n, hn⟩ : ∃ n, n = nat WP := ⟨_, rfl⟩
            rw [← hn] at hv HO HN0
            have C5 := Lib.hid (qCanonical (l := WP) (by omega) hv)
            have hnl := canon_len_le (n : Int) WP.length (by rw [← hv]; exact val_lt WP)
            clear hall hWP hn hv
            go_wp2_with fail
            ((with_reducible refine (C5.out.of hG hb).mono ?_); rintro e w5 ⟨rfl, hb5⟩)
            replace hb := bto hb hb5
            replace x2 := x2.below hb5
            clear hb5
            clear hadd C5
            have hs1 := str_add [] (canon (n : Int)) (by decide) (by omega)
            rw [List.nil_append] at hs1
            have c6 := ePower (p := 0) (by decide)
            rw [show ((0 : Nat) : Int) = 0 from rfl] at c6
            have C6 := Lib.hid c6
            clear c6
            have C7 := Lib.hid (sNew1 (l := canon (n : Int)) (l' := 49 :: List.replicate 0 48) (by first | omega | (simp; omega)) (by simp; first | done | omega) (by rw [val_one0]; exact ten_ne3 _) (fv_new (val_canon _) (val_one0 _) (ten_ne3 _)))
            have HV := Lib.hid (HO.out (by first | exact .inl rfl | exact .inl trivial))
            clear HN0 HO FF
            rw [show (([] : List UInt8)).length = 0 from rfl] at HV
            generalize hTP : (49 :: List.replicate 0 (48 : UInt8)) = TP at *
            clear hTP
            simp only [Bool.false_eq_true, if_false] at HV
            generalize fN (Rat.divInt (n : Int) ((10 ^ 0 : Nat) : Int)) = N at *
            generalize fD (Rat.divInt (n : Int) ((10 ^ 0 : Nat) : Int)) = D at *
            go_wp2_with fail
            ((with_reducible refine (C6.out.of hG hb).mono ?_); rintro e w6 ⟨rfl, hb6⟩)
            replace hb := bto hb hb6
            replace x2 := x2.below hb6
            clear hb6
            go_wp2_with fail
            ((with_reducible refine (C7.out.of hG hb).mono ?_); rintro e w7 ⟨rfl, hb7⟩)
            replace hb := bto hb hb7
            replace x2 := x2.below hb7
            clear hb7
            have x10 := FBox.new w7 (.string ⟨N.toArray⟩) (.string ⟨D.toArray⟩) 42
            replace x2 := x2.below (below_alloc w7 (.cells #[.string ⟨N.toArray⟩, .string ⟨D.toArray⟩] 42))
            replace hb := bto hb (below_alloc w7 (.cells #[.string ⟨N.toArray⟩, .string ⟨D.toArray⟩] 42))
            have q0 := x2.c0
            have q1 := x2.c1
            have q2 := x2.f0
            have q3 := x2.f1
            have g0 := x10.c0
            have g1 := x10.c1
            go_wp2
            have hy := x2.set (.string ⟨N.toArray⟩) (.string ⟨D.toArray⟩)
            have d0 := hy.c0
            have d1 := hy.c1
            refine bodyPost_ret (v := .tuple #[.agg #[.string ⟨N.toArray⟩, .string ⟨D.toArray⟩], .int .i64 0]) (by simp [results, Tryz.results147, go_sem, d0, d1]) rfl ?_
            exact ⟨by rw [HV.out], below_set2 hb (Nat.le_refl _) _ _⟩
        · have g1' : decide (1 < W.length) = false := decide_eq_false g1
          have HWk := Lib.hid (okW_one HD.out g1)
          have hall := FF.out.dig HWk.out (by first | exact .inl rfl | exact .inl trivial)
          have hadd := str_add W [] (by omega) (by first | omega | decide)
          obtain ⟨WP, hWP⟩ : ∃ WP, WP = W ++ [] := ⟨_, rfl⟩
          rw [← hWP] at hadd hall
          have hv := val_alldig hall
          have hwl : WP.length ≤ 2000 := by rw [hWP, List.length_append]; first | omega | (simp; omega)
          have HO := Lib.hid (FF.out.ok HWk.out (by first | exact .inl rfl | exact .inl trivial))
          have HN0 := Lib.hid FF.out.n0
          rw [← hWP] at HO HN0
          obtain ⟨n, hn⟩ : ∃ n, n = nat WP := ⟨_, rfl⟩
          rw [← hn] at hv HO HN0
          have C5 := Lib.hid (qCanonical (l := WP) (by omega) hv)
          have hnl := canon_len_le (n : Int) WP.length (by rw [← hv]; exact val_lt WP)
          clear hall hWP hn hv
          go_wp2_with fail
          ((with_reducible refine (C5.out.of hG hb).mono ?_); rintro e w5 ⟨rfl, hb5⟩)
          replace hb := bto hb hb5
          replace x2 := x2.below hb5
          clear hb5
          clear hadd C5
          have hs1 := str_add [] (canon (n : Int)) (by decide) (by omega)
          rw [List.nil_append] at hs1
          have c6 := ePower (p := 0) (by decide)
          rw [show ((0 : Nat) : Int) = 0 from rfl] at c6
          have C6 := Lib.hid c6
          clear c6
          have C7 := Lib.hid (sNew1 (l := canon (n : Int)) (l' := 49 :: List.replicate 0 48) (by first | omega | (simp; omega)) (by simp; first | done | omega) (by rw [val_one0]; exact ten_ne3 _) (fv_new (val_canon _) (val_one0 _) (ten_ne3 _)))
          have HV := Lib.hid (HO.out (by first | exact .inl rfl | exact .inl trivial))
          clear HN0 HO FF
          rw [show (([] : List UInt8)).length = 0 from rfl] at HV
          generalize hTP : (49 :: List.replicate 0 (48 : UInt8)) = TP at *
          clear hTP
          simp only [Bool.false_eq_true, if_false] at HV
          generalize fN (Rat.divInt (n : Int) ((10 ^ 0 : Nat) : Int)) = N at *
          generalize fD (Rat.divInt (n : Int) ((10 ^ 0 : Nat) : Int)) = D at *
          go_wp2_with fail
          ((with_reducible refine (C6.out.of hG hb).mono ?_); rintro e w6 ⟨rfl, hb6⟩)
          replace hb := bto hb hb6
          replace x2 := x2.below hb6
          clear hb6
          go_wp2_with fail
          ((with_reducible refine (C7.out.of hG hb).mono ?_); rintro e w7 ⟨rfl, hb7⟩)
          replace hb := bto hb hb7
          replace x2 := x2.below hb7
          clear hb7
          have x10 := FBox.new w7 (.string ⟨N.toArray⟩) (.string ⟨D.toArray⟩) 42
          replace x2 := x2.below (below_alloc w7 (.cells #[.string ⟨N.toArray⟩, .string ⟨D.toArray⟩] 42))
          replace hb := bto hb (below_alloc w7 (.cells #[.string ⟨N.toArray⟩, .string ⟨D.toArray⟩] 42))
          have q0 := x2.c0
          have q1 := x2.c1
          have q2 := x2.f0
          have q3 := x2.f1
          have g0 := x10.c0
          have g1 := x10.c1
          go_wp2
          have hy := x2.set (.string ⟨N.toArray⟩) (.string ⟨D.toArray⟩)
          have d0 := hy.c0
          have d1 := hy.c1
          refine bodyPost_ret (v := .tuple #[.agg #[.string ⟨N.toArray⟩, .string ⟨D.toArray⟩], .int .i64 0]) (by simp [results, Tryz.results147, go_sem, d0, d1]) rfl ?_
          exact ⟨by rw [HV.out], below_set2 hb (Nat.le_refl _) _ _⟩
set_option maxHeartbeats 1000000 in
set_option maxRecDepth 100000 in
theorem eFrac_e : Ret 147 #[.string ⟨#[]⟩] (FracV []) := fun w hG => by
  have hb := below_alloc w (.cells #[.string ⟨#[]⟩, .string ⟨#[]⟩] 42)
  have x2 := FBox.new w (.string ⟨#[]⟩) (.string ⟨#[]⟩) 42
  have HV : Hid (FracV [] = .tuple #[.agg #[.string ⟨#[]⟩, .string ⟨#[]⟩], .int .i64 3]) := fracV_f (by decide)
  have c3 := eDigits (l := []) (by decide)
  rw [show isD [] = false from rfl] at c3
  have C3 := Lib.hid c3
  clear c3
  go_enter Tryz.func147, Tryz.ntmps147
  go_wp2_with fail
  go_loop [6, 7, 8] (fun wv pv iv => wv = .string ⟨#[]⟩ ∧ pv = .string ⟨#[]⟩ ∧ iv = .int .i64 0) (fun _ _ _ => 0)
  case atStart => exact ⟨rfl, rfl, rfl⟩
  case round =>
    obtain ⟨rfl, rfl, rfl⟩ := hrel
    go_wp2_with fail
    ((with_reducible refine (C3.out.of hG hb).mono ?_); rintro e w3 ⟨rfl, hb3⟩)
    replace hb := bto hb hb3
    replace x2 := x2.below hb3
    have q0 := x2.c0
    have q1 := x2.c1
    have q2 := x2.f0
    have q3 := x2.f1
    go_wp2
    have hy := x2.set (.string ⟨#[]⟩) (.string ⟨#[]⟩)
    have d0 := hy.c0
    have d1 := hy.c1
    refine bodyPost_ret (v := .tuple #[.agg #[.string ⟨#[]⟩, .string ⟨#[]⟩], .int .i64 3]) (by simp [results, Tryz.results147, go_sem, d0, d1]) rfl ?_
    exact ⟨by rw [HV.out], below_set2 hb (Nat.le_refl _) _ _⟩
theorem eFrac {s : List UInt8} (hs : s.length ≤ 1000) : Ret 147 #[.string ⟨s.toArray⟩] (FracV s) := by
  cases s with
  | nil => exact eFrac_e
  | cons a t =>
    by_cases h : a = 45
    · subst h; exact eFrac_n hs rfl
    · exact eFrac_p hs (by unfold isNeg; rw [beq_eq_false_iff_ne]; simpa using h) (by simp)
end Go.Proofs.YtdjjlbfleibhjaaGreatDoor
namespace Go.Proofs.YtdjjlbfleibhjaaGreatDoor
open Go.RowKit Num
set_option maxHeartbeats 2000000 in
set_option maxRecDepth 100000 in
theorem eParse {s : List UInt8} (hs : s.length ≤ 60) {p : Nat} (hp : p ≤ 12) : Ret 82 #[.string ⟨s.toArray⟩, .int .i64 (p : Int)] (ParseV s p) := fun w hG => by
  have C1 := Lib.hid (ePlaces (n := (p : Int)) (by omega) (by omega))
  have c2 := eFrac (s := s) (by omega)
  have hb := Below.refl w.heap.size w
  cases hok : decOk s
  · rw [fracV_f hok] at c2
    have HV := Lib.hid (parseV_f (p := p) hok)
    have C2 := Lib.hid c2
    clear c2 hok hs hp
    go_enter Tryz.func82, Tryz.ntmps82
    go_wp2_with fail
    ((with_reducible refine (C1.out.of hG hb).mono ?_); rintro e w1 ⟨rfl, hb1⟩)
    replace hb := bto hb hb1
    go_wp2_with fail
    ((with_reducible refine (C2.out.of hG hb).mono ?_); rintro e w2 ⟨rfl, hb2⟩)
    replace hb := bto hb hb2
    go_wp2
    go_ret2
    exact ⟨by rw [HV.out]; first | done | rfl, bto hb (below_alloc _ _)⟩
  · rw [fracV_t hok] at c2
    have bq := decQ_bd (s := s) (K := 121) (by omega) (decOk_dig hok)
    have hV1 := parseV_1 (p := p) hok
    have hV0 := parseV_0 (p := p) hok
    have bt := bd_ten p
    have lq := bd_len bq
    have lt := bd_len bt
    have bs := bd_mul bq bt
    have ls := bd_len bs
    have cP := ePower (p := p) (by omega)
    have c4 := sOf (l := 49 :: List.replicate p 48) (by simp; omega) (show Rat.divInt (val (49 :: List.replicate p 48)) 1 = tenQ p by rw [val_one0]; exact Rat.num_divInt_den (tenQ p))
    have c5 := sMul (l := fN (decQ s)) (l' := fD (decQ s)) (k := fN (tenQ p)) (k' := fD (tenQ p)) (by omega) (by omega) (by omega) (by omega) (show fv (fN (decQ s)) (fD (decQ s)) * fv (fN (tenQ p)) (fD (tenQ p)) = decQ s * tenQ p by rw [fv_frac, fv_frac])
    have c6 := sParts (l := fN (decQ s * tenQ p)) (l' := fD (decQ s * tenQ p)) (by omega) (by omega) (by omega) (by omega) (fv_frac (decQ s * tenQ p))
    have hde : ((decQ s * tenQ p).den : Int).natAbs < 10 ^ (121 + (p + 1)) := by rw [Int.natAbs_natCast]; exact bs.2
    have c7 := qCompare (l := canon ((decQ s * tenQ p).den : Int)) (l' := [49]) (canon_len_of hde (by omega)) (by decide) (show cmpZ (val (canon ((decQ s * tenQ p).den : Int))) (val [49]) = cmpZ ((decQ s * tenQ p).den : Int) 1 by rw [val_canon]; rfl)
    have hone := cmp_one (decQ s * tenQ p).den
    have HN : Hid (fN (decQ s * tenQ p) = canon (decQ s * tenQ p).num) := rfl
    rw [← HN.out] at hV1
    clear HN hde bs bq hok hs bt lq lt ls hp
    generalize canon ((decQ s * tenQ p).den : Int) = E at *
    generalize cmpZ ((decQ s * tenQ p).den : Int) 1 = c at *
    generalize (decQ s * tenQ p).den = d at *
    generalize fN (decQ s * tenQ p) = M at *
    generalize fD (decQ s * tenQ p) = M' at *
    generalize fN (decQ s) = N at *
    generalize fD (decQ s) = D at *
    generalize fN (tenQ p) = T0 at *
    generalize fD (tenQ p) = T1 at *
    generalize ParseV s p = V at *
    generalize (49 :: List.replicate p (48 : UInt8)) = TP at *
    have C2 := Lib.hid c2
    have CP := Lib.hid cP
    have C4 := Lib.hid c4
    have C5 := Lib.hid c5
    have C6 := Lib.hid c6
    have C7 := Lib.hid c7
    have HV1 := Lib.hid hV1
    have HV0 := Lib.hid hV0
    have HO := Lib.hid hone
    clear c2 cP c4 c5 c6 c7 hV1 hV0 hone
    go_enter Tryz.func82, Tryz.ntmps82
    go_wp2_with fail
    ((with_reducible refine (C1.out.of hG hb).mono ?_); rintro e w2 ⟨rfl, hb2⟩)
    replace hb := bto hb hb2
    clear hb2
    go_wp2_with fail
    ((with_reducible refine (C2.out.of hG hb).mono ?_); rintro e w3 ⟨rfl, hb3⟩)
    replace hb := bto hb hb3
    clear hb3
    have x6 := FBox.new w3 (.string ⟨N.toArray⟩) (.string ⟨D.toArray⟩) 42
    replace hb := bto hb (below_alloc w3 (.cells #[.string ⟨N.toArray⟩, .string ⟨D.toArray⟩] 42))
    go_wp2_with fail
    refine wp_region_kept (by kernel_rfl) (by kernel_rfl) ?_
    refine kept_val _ (fun _ => rfl) (fun ρ w hw => by have q0 := (x6.below hw).c0; have q1 := (x6.below hw).c1; go_simp; first | done | with_reducible rfl) ?_
    simp only [Act.put, List.setIfInBounds_toArray, List.set_cons_zero, List.set_cons_succ, Nat.reduceAdd]
    refine kept_val _ (fun _ => rfl) (fun ρ w hw => by go_simp; first | done | with_reducible rfl) ?_
    simp only [Act.put, List.setIfInBounds_toArray, List.set_cons_zero, List.set_cons_succ, Nat.reduceAdd]
    refine kept_call _ _ _ (fun _ => rfl) (fun ρ w hw => by go_simp; first | done | with_reducible rfl) (fun w hw => CP.out.of hG (bto hb hw)) ?_
    simp only [Act.put, List.setIfInBounds_toArray, List.set_cons_zero, List.set_cons_succ, Nat.reduceAdd]
    refine kept_call _ _ _ (fun _ => rfl) (fun ρ w hw => by go_simp; first | done | with_reducible rfl) (fun w hw => C4.out.of hG (bto hb hw)) ?_
    simp only [Act.put, List.setIfInBounds_toArray, List.set_cons_zero, List.set_cons_succ, Nat.reduceAdd]
    refine kept_call _ _ _ (fun _ => rfl) (fun ρ w hw => by go_simp; first | done | with_reducible rfl) (fun w hw => C5.out.of hG (bto hb hw)) ?_
    simp only [Act.put, List.setIfInBounds_toArray, List.set_cons_zero, List.set_cons_succ, Nat.reduceAdd]
    refine kept_call _ _ _ (fun _ => rfl) (fun ρ w hw => by go_simp; first | done | with_reducible rfl) (fun w hw => C6.out.of hG (bto hb hw)) ?_
    simp only [Act.put, List.setIfInBounds_toArray, List.set_cons_zero, List.set_cons_succ, Nat.reduceAdd]
    refine kept_val _ (fun _ => rfl) (fun ρ w hw => by go_simp; first | done | with_reducible rfl) ?_
    simp only [Act.put, List.setIfInBounds_toArray, List.set_cons_zero, List.set_cons_succ, Nat.reduceAdd]
    refine kept_val _ (fun _ => rfl) (fun ρ w hw => by go_simp; first | done | with_reducible rfl) ?_
    simp only [Act.put, List.setIfInBounds_toArray, List.set_cons_zero, List.set_cons_succ, Nat.reduceAdd]
    refine kept_val _ (fun _ => rfl) (fun ρ w hw => by go_simp; first | done | with_reducible rfl) ?_
    simp only [Act.put, List.setIfInBounds_toArray, List.set_cons_zero, List.set_cons_succ, Nat.reduceAdd]
    refine kept_val _ (fun _ => rfl) (fun ρ w hw => by go_simp; first | done | with_reducible rfl) ?_
    simp only [Act.put, List.setIfInBounds_toArray, List.set_cons_zero, List.set_cons_succ, Nat.reduceAdd]
    refine kept_val _ (fun _ => rfl) (fun ρ w hw => by go_simp; first | done | with_reducible rfl) ?_
    simp only [Act.put, List.setIfInBounds_toArray, List.set_cons_zero, List.set_cons_succ, Nat.reduceAdd]
    refine kept_end (fun ρ w4 hF => ?_)
    replace x6 := x6.below hF.below
    replace hb := bto hb hF.below
    clear hF
    clear x6
    go_wp2_with fail
    ((with_reducible refine (C7.out.of hG hb).mono ?_); rintro e w5 ⟨rfl, hb5⟩)
    replace hb := bto hb hb5
    clear hb5
    by_cases h1 : c = 0
    · have e1 := intbeq h1
      have e2 := bneq e1
      have HV := Lib.hid (HV1.out (HO.out.1 h1))
      clear h1
      go_wp2
      go_ret2
      exact ⟨by rw [HV.out]; first | done | rfl, hb⟩
    · have e1 := intbne h1
      have e2 := bneq' e1
      have HV := Lib.hid (HV0.out (fun h => h1 (HO.out.2 h)))
      clear h1
      go_wp2
      go_ret2
      exact ⟨by rw [HV.out]; first | done | rfl, hb⟩
end Go.Proofs.YtdjjlbfleibhjaaGreatDoor
