/- The law MoneyPuts. -/
import Derived.Test.YtdjjlbfleibhjaaGreatDoorM8
namespace Go.Proofs.YtdjjlbfleibhjaaGreatDoor
open Go.RowKit Num
set_option maxHeartbeats 8000000 in
set_option maxRecDepth 100000 in
theorem puts_law (A : Option Addr) (xs : List Mon) (n c : Nat) (d : Int) (hd0 : 0 ≤ d) (hd1 : d ≤ 255) (w : World) (hG : Glob w)
    (hn : xs.length = n) (hc : n ≤ c) (hm : n ≤ 9223372036854775807) (hI : MonAt w A xs) :
    Calls Tryz.prog 7 #[.slice A n c, .int .u8 d] w fun e w' => e = .returned (.bool true) ∧ Below w.heap.size w w' := by
  have HAw := Lib.hid wAwake5
  have hb := Below.refl w.heap.size w
  have hcall := enter_pM
  by_cases g8 : 8 < n
  · have e1 : decide (8 < n) = true := decide_eq_true g8
    have e2 : decide ((8 : Int) < (n : Int)) = true := decide_eq_true (by omega)
    clear hn hI g8
    go_enter Tryz.func7, Tryz.ntmps7
    go_wp2_with fail
    ((with_reducible refine (HAw.out.of hG hb).mono ?_); rintro e wz ⟨rfl, hbz⟩)
    replace hb := bto hb hbz
    clear hbz
    go_wp2
    go_ret
    exact ⟨rfl, hb⟩
  have e1 : decide (8 < n) = false := decide_eq_false g8
  have e2 : decide ((8 : Int) < (n : Int)) = false := decide_eq_false (by omega)
  have hn8 : n ≤ 8 := by omega
  have CC := Lib.hid (conP A xs n c w hG hn (by omega) hI)
  have HI := Lib.hid hI
  have HN := Lib.hid hn
  have HC := Lib.hid hc
  clear hn hI g8 hm hc
  go_enter Tryz.func7, Tryz.ntmps7
  go_wp2_with fail
  refine CC.out.mono ?_
  rintro e w2 ⟨g, rfl, hg, hb2⟩
  have HF := Lib.hid hg
  replace hb := bto hb hb2
  clear hg hb2 CC e1 e2
  cases g with
  | true =>
    clear HF
    go_wp2_with fail
    ((with_reducible refine (HAw.out.of hG hb).mono ?_); rintro e wz ⟨rfl, hbz⟩)
    replace hb := bto hb hbz
    clear hbz
    go_wp2
    go_ret
    exact ⟨rfl, hb⟩
  | false =>
    have HM := Lib.hid (HF.out rfl)
    clear HF
    obtain ⟨p, hp⟩ : ∃ p : Nat, p = (d % (n : Int)).toNat := ⟨_, rfl⟩
    have HP := Lib.hid hp
    clear hp
    have HB : Hid (∀ k, BG ((xs.take k).foldl putL []) 21 8) := fun k => puts_ok (by rw [List.length_take]; have := HN.out; omega) (fun m hm => HM.out m (List.mem_of_mem_take hm))
    have HO : Hid (∀ k, BG (((pmL xs p).take k).foldl putL []) 21 8) := fun k => puts_ok (by rw [List.length_take, pm_len]; have := HN.out; omega) (fun m hm => HM.out m (by
      have := List.mem_of_mem_take hm
      unfold pmL at this
      rcases List.mem_append.1 this with h | h
      · exact List.mem_of_mem_take (List.mem_reverse.1 h)
      · exact List.mem_of_mem_drop (List.mem_reverse.1 h)))
    go_wp2_with fail
    go_loopw [5, 6, 7, 25] (fun a5 a6 a7 iv wr => ∃ (k : Nat) (B5 B6 B7 : Option Addr) (m5 m6 m7 c5 c6 c7 : Nat), k ≤ n ∧ iv = .int .i64 (k : Int) ∧ a5 = .slice B5 m5 c5 ∧ a6 = .slice B6 m6 c6 ∧ a7 = .slice B7 m7 c7 ∧ Hid (AtM wr B5 ((xs.take k).foldl putL []) m5 c5) ∧ Hid (AtM wr B6 (((pmL xs p).take k).foldl putL []) m6 c6) ∧ Hid (AtM wr B7 ((xs.take k).foldl putL []) m7 c7) ∧ Below w.heap.size w wr) (fun _ _ _ iv _ => n - (intOf iv).toNat)
    case atStart => exact ⟨0, none, none, none, 0, 0, 0, 0, 0, 0, Nat.zero_le _, rfl, rfl, rfl, rfl, AtM.nil _, AtM.nil _, AtM.nil _, hb⟩
    case round =>
      clear hb
      obtain ⟨k, B5, B6, B7, m5, m6, m7, c5, c6, c7, hk, rfl, rfl, rfl, rfl, H5, H6, H7, hb⟩ := hrel
      by_cases hlt : k < n
      · obtain ⟨t, ht⟩ : ∃ t, xs[k]? = some t := ⟨_, List.getElem?_eq_getElem (by rw [HN.out]; exact hlt)⟩
        obtain ⟨b, o, rfl, hbs, p0, p1⟩ := (HI.out.below hb) k t ht
        obtain ⟨j, hj, hjn⟩ : ∃ j : Nat, ((n : Int) - 1 - (k : Int) + d) % (n : Int) = (j : Int) ∧ j < n := ⟨(((n : Int) - 1 - (k : Int) + d) % (n : Int)).toNat, by have := Int.emod_nonneg ((n : Int) - 1 - (k : Int) + d) (show (n : Int) ≠ 0 by omega); omega, by have := Int.emod_nonneg ((n : Int) - 1 - (k : Int) + d) (show (n : Int) ≠ 0 by omega); have := Int.emod_lt_of_pos ((n : Int) - 1 - (k : Int) + d) (show (0 : Int) < n by omega); omega⟩
        have HJ := Lib.hid hj
        have hpn : p < n := by have h1 := HP.out; have := Int.emod_nonneg d (show (n : Int) ≠ 0 by omega); have := Int.emod_lt_of_pos d (show (0 : Int) < n by omega); omega
        have hjp : j = (n - 1 - k + p) % n := by
          have h1 := HP.out
          have h2 : (p : Int) = d % (n : Int) := by have := Int.emod_nonneg d (show (n : Int) ≠ 0 by omega); omega
          have h3 : ((n : Int) - 1 - (k : Int) + (p : Int)) % (n : Int) = (j : Int) := by rw [h2, Int.add_emod_emod]; exact hj
          have h4 : (((n - 1 - k + p : Nat) : Int)) = (n : Int) - 1 - (k : Int) + (p : Int) := by omega
          have h5 : (((n - 1 - k + p) % n : Nat) : Int) = (j : Int) := by rw [Int.natCast_emod, h4]; exact h3
          omega
        have hu := pm_at HN.out hpn hlt hjp
        obtain ⟨u, hx⟩ : ∃ u, xs[j]? = some u := ⟨_, List.getElem?_eq_getElem (by rw [HN.out]; exact hjn)⟩
        rw [hx] at hu
        have HX := Lib.hid hx
        have gt : GM t := HM.out t (List.mem_of_getElem? ht)
        have gu : GM u := HM.out u (List.mem_of_getElem? hx)
        have S1 : (xs.take (k + 1)).foldl putL [] = putL ((xs.take k).foldl putL []) t := foldl_snoc putL ht []
        have S2 : ((pmL xs p).take (k + 1)).foldl putL [] = putL (((pmL xs p).take k).foldl putL []) u := foldl_snoc putL hu []
        have b1 := HB.out k
        have b2 := HB.out (k + 1)
        have b3 := HO.out k
        have b4 := HO.out (k + 1)
        have l1 := b1.len
        have l2 := b2.len
        have l3 := b3.len
        have l4 := b4.len
        have g1 : BG (putL [] t) 14 1 := BG.put (BG.nil.up (Nat.zero_le 13) (Nat.le_refl _)) (Nat.le_refl _) gt
        have l5 := g1.len
        have S3 : smL ((xs.take k).foldl putL []) (putL [] t) = (xs.take (k + 1)).foldl putL [] := by rw [S1]; exact add_put b1.bag t
        have P1 := Lib.hid (fun (W : World) (hG : Glob W) (h : AtM W B5 ((xs.take k).foldl putL []) m5 c5) => mPutG hG b1 (by decide) h gt.code gt.can (by have := gt.len; omega) S1.symm (by omega) (by omega))
        have P2 := Lib.hid (fun (W : World) (hG : Glob W) (h : AtM W B6 (((pmL xs p).take k).foldl putL []) m6 c6) => mPutG hG b3 (by decide) h gu.code gu.can (by have := gu.len; omega) S2.symm (by omega) (by omega))
        have P3 := Lib.hid (fun (W : World) (hG : Glob W) => mPutG hG (BG.nil.up (Nat.zero_le 13) (Nat.le_refl _)) (by decide) (AtM.nil W) gt.code gt.can (by have := gt.len; omega) rfl (by decide) (by omega))
        have P4 := Lib.hid (fun (W : World) A' m' c' B' n' d' (hG : Glob W) (h : AtM W A' ((xs.take k).foldl putL []) m' c') (h' : AtM W B' (putL [] t) n' d') => mSumG hG b1 g1 (by decide) (by decide) h h' S3 (by omega) (by omega) (by omega))
        have x5 := H5.out
        have x6 := H6.out
        have x7 := H7.out
        obtain ⟨v1, hv1⟩ : ∃ v, v = (xs.take (k + 1)).foldl putL [] := ⟨_, rfl⟩
        obtain ⟨v2, hv2⟩ : ∃ v, v = ((pmL xs p).take (k + 1)).foldl putL [] := ⟨_, rfl⟩
        rw [← hv1] at P1 P4
        rw [← hv2] at P2
        have HV1 := Lib.hid hv1
        have HV2 := Lib.hid hv2
        generalize putL [] t = v3 at *
        have hbA := below_alloc wr (.cells #[.string ⟨t.cur.toArray⟩, .string ⟨t.amt.toArray⟩] 25)
        have x9 := FBox.new wr (.string ⟨t.cur.toArray⟩) (.string ⟨t.amt.toArray⟩) 25
        replace x5 := x5.below hbA
        replace x6 := x6.below hbA
        replace x7 := x7.below hbA
        replace hb := bto hb hbA
        clear hbA H5 H6 H7 S1 S2 S3 hv1 hv2 b1 b2 b3 b4 l1 l2 l3 l4 g1 l5 gt gu ht hu hx hj hjp
        go_wp2_with fail
        refine (P1.out _ (hG.below hb) x5).mono ?_
        rintro e w3 ⟨B5', m5', c5', rfl, y5, hb3⟩
        replace x6 := x6.below hb3
        replace x7 := x7.below hb3
        replace x9 := x9.below hb3
        replace hb := bto hb hb3
        clear p0 p1 hb3 P1
        obtain ⟨b', o', hbo, hds, r0, r1⟩ := (HI.out.below hb) j u HX.out
        injection hbo with hbo
        injection hbo with hbo1 hbo2
        subst hbo1 hbo2
        have hq1 : 0 ≤ ((n : Int) - 1 - (k : Int) + d) % (n : Int) := by rw [HJ.out]; omega
        have hq2 : ((n : Int) - 1 - (k : Int) + d) % (n : Int) < (n : Int) := by rw [HJ.out]; omega
        rw [show j = (((n : Int) - 1 - (k : Int) + d) % (n : Int)).toNat by rw [HJ.out]; rfl] at r0 r1
        go_wp2_with fail
        refine (P2.out _ (hG.below hb) x6).mono ?_
        rintro e w4 ⟨B6', m6', c6', rfl, y6, hb4⟩
        replace y5 := y5.below hb4
        replace x7 := x7.below hb4
        replace x9 := x9.below hb4
        replace hb := bto hb hb4
        have q0 := x9.c0
        have q1 := x9.c1
        clear hb4 P2 r0 r1 hq1 hq2
        go_wp2_with fail
        refine (P3.out _ (hG.below hb)).mono ?_
        rintro e w5 ⟨B8, m8, c8, rfl, y8, hb5⟩
        replace y5 := y5.below hb5
        replace y6 := y6.below hb5
        replace x7 := x7.below hb5
        replace hb := bto hb hb5
        clear hb5 P3 x9 q0 q1
        go_wp2_with fail
        refine (P4.out _ _ _ _ _ _ _ (hG.below hb) x7 y8).mono ?_
        rintro e w6 ⟨B7', m7', c7', rfl, y7, hb6⟩
        replace y5 := y5.below hb6
        replace y6 := y6.below hb6
        replace hb := bto hb hb6
        have Y5 := Lib.hid y5
        have Y6 := Lib.hid y6
        have Y7 := Lib.hid y7
        have hmx := fun (ts : Array TypeId) (t : TypeId) (w : World) => max4 (P := Tryz.prog) ts t w
        rw [HV1.out] at Y5 Y7
        rw [HV2.out] at Y6
        clear hb6 P4 y8 x7 y5 y6 y7 HV1 HV2 HJ HX
        go_wp2
        go_roundw
        case rel => exact ⟨k + 1, B5', B6', B7', m5', m6', m7', c5', c6', c7', by omega, by go_num, rfl, rfl, rfl, Y5, Y6, Y7, hb⟩
        case measure => simp [intOf]; omega
      · have E1 : xs.take k = xs := List.take_of_length_le (by rw [HN.out]; omega)
        have hx5 := H5.out
        have hx6 := H6.out
        have hx7 := H7.out
        have hB := HB.out k
        rw [E1] at hx5 hx7 hB
        rw [List.take_of_length_le (by rw [pm_len, HN.out]; omega), puts_pm] at hx6
        have hl := hB.len
        have Q1 := Lib.hid (fun (W : World) (hb : Below wr.heap.size wr W) => eqMG (hx5.below hb) (hx6.below hb) rfl (by omega))
        have Q2 := Lib.hid (fun (W : World) (hb : Below wr.heap.size wr W) => eqMG (hx5.below hb) (hx7.below hb) rfl (by omega))
        have Q3 := Lib.hid (fun (W : World) (hb : Below wr.heap.size wr W) (hG : Glob W) => (mCheckB hG (hB.ml (by decide) (by omega) (hx5.below hb)) c5).of hG (Below.refl _ _))
        simp only [hB.ok (by omega)] at Q3
        clear H5 H6 H7 hB hl hx5 hx6 hx7 HB HO HM E1
        go_wp2_with fail
        refine (Q1.out _ (Below.refl _ _)).mono ?_
        rintro e w4 ⟨rfl, hb4⟩
        go_wp2_with fail
        refine (Q2.out _ hb4).mono ?_
        rintro e w5 ⟨rfl, hb5⟩
        go_wp2_with fail
        refine (Q3.out _ (bto hb4 hb5) (hG.below (bto hb (bto hb4 hb5)))).mono ?_
        rintro e w6 ⟨rfl, hb6⟩
        replace hb := bto hb (bto (bto hb4 hb5) hb6)
        clear hb4 hb5 hb6 Q1 Q2 Q3
        go_wp2_with fail
        ((with_reducible refine (HAw.out.of hG hb).mono ?_); rintro e wz ⟨rfl, hbz⟩)
        replace hb := bto hb hbz
        clear hbz
        go_wp2
        go_ret
        exact ⟨rfl, hb⟩
end Go.Proofs.YtdjjlbfleibhjaaGreatDoor
