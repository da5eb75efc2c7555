/- InstrumentLife. -/
import Derived.Test.YtdbmjbcgcajojaaGreatDoorIj
namespace Go.Proofs.YtdbmjbcgcajojaaGreatDoor
open Go.RowKit Num
/-- Great, of a slice of one instrument that was just made -/
theorem great_one_life_law (w : World) (x : Ins) (t : TypeId) (b : Nat) (hbz : w.heap.size = b) : Calls Tryz.prog 44 #[.slice (some ⟨b, 0, none⟩) 1 1] (w.alloc (.cells #[Value.string ⟨List.toArray x.id⟩, Value.int .i64 x.kind, Value.string ⟨List.toArray x.cur⟩, Value.int .i64 x.places, Value.int .i64 x.issued, Value.int .i64 x.matures, Value.string ⟨List.toArray x.fn⟩, Value.string ⟨List.toArray x.fd⟩, Value.string ⟨List.toArray x.cn⟩, Value.string ⟨List.toArray x.cd⟩, Value.int .i64 x.months, Value.int .i64 x.count, Value.string ⟨List.toArray x.other⟩, Value.string ⟨List.toArray x.sn⟩, Value.string ⟨List.toArray x.sd⟩] t)) fun e w' => ((e = .returned (.bool true)) ∨ (e = .returned (.bool false) ∧ x.Small)) ∧ Below w.heap.size w w' := by
  subst hbz
  have h := jGreat (some ⟨w.heap.size, 0, none⟩) [x] 1 (w.alloc (.cells #[Value.string ⟨List.toArray x.id⟩, Value.int .i64 x.kind, Value.string ⟨List.toArray x.cur⟩, Value.int .i64 x.places, Value.int .i64 x.issued, Value.int .i64 x.matures, Value.string ⟨List.toArray x.fn⟩, Value.string ⟨List.toArray x.fd⟩, Value.string ⟨List.toArray x.cn⟩, Value.string ⟨List.toArray x.cd⟩, Value.int .i64 x.months, Value.int .i64 x.count, Value.string ⟨List.toArray x.other⟩, Value.string ⟨List.toArray x.sn⟩, Value.string ⟨List.toArray x.sd⟩] t)) (by simp) (fun i y hy => by
    cases i with
    | zero =>
      obtain rfl : x = y := by simpa using hy
      exact ⟨w.heap.size, 0, rfl, by simp, (IBox.new w x t).cells⟩
    | succ i => simp at hy)
  refine h.mono fun e w' ⟨h1, h2⟩ => ⟨?_, bto (below_alloc _ _) h2⟩
  rcases h1 with h1 | ⟨h1, h3, -⟩
  · exact .inl h1
  · exact .inr ⟨h1, h3 x (by simp)⟩
theorem chk_ok {x : Ins} (h : chkE x = 0) : dayB x.issued = true ∧ matB x = false := by
  unfold chkE at h
  split at h
  · exact absurd h (by decide)
  split at h
  · exact absurd h (by decide)
  split at h
  · exact absurd h (by decide)
  split at h
  · exact absurd h (by decide)
  split at h
  · exact absurd h (by decide)
  · next h5 =>
    refine ⟨by simpa using h5, ?_⟩
    unfold tailE at h
    split at h
    · exact absurd h (by decide)
    · next h6 => simpa using h6
theorem mat_no {x : Ins} (h : matB x = false) (h0 : ¬ x.matures = 0) : dayB x.matures = true ∧ x.issued < x.matures := by
  unfold matB at h
  rw [decide_eq_true h0, Bool.true_and, Bool.or_eq_false_iff, Bool.or_eq_false_iff] at h
  refine ⟨by simpa using h.1.1, ?_⟩
  have := of_decide_eq_false h.1.2
  omega
theorem st_cases (x : Ins) (d : Int) : (d < x.issued ∧ stOf x d = 1) ∨ (¬ d < x.issued ∧ (x.matures ≠ 0 ∧ x.matures < d) ∧ stOf x d = 3) ∨ (¬ d < x.issued ∧ ¬ (x.matures ≠ 0 ∧ x.matures < d) ∧ stOf x d = 2) := by
  unfold stOf
  by_cases h1 : d < x.issued
  · exact .inl ⟨h1, if_pos h1⟩
  · by_cases h2 : x.matures ≠ 0 ∧ x.matures < d
    · exact .inr (.inl ⟨h1, h2, by rw [if_neg h1, if_pos h2]⟩)
    · exact .inr (.inr ⟨h1, h2, by rw [if_neg h1, if_neg h2]⟩)
theorem st_bd (x : Ins) (d : Int) : 1 ≤ stOf x d ∧ stOf x d ≤ 3 := by
  have := st_cases x d
  omega
theorem st_mono {x : Ins} {d e : Int} (h : d ≤ e) : stOf x d ≤ stOf x e := by
  have h1 := st_cases x d
  have h2 := st_cases x e
  omega
theorem stE_ok {x : Ins} {d : Int} (h0 : chkE x = 0) (g : (stE x d).2 = 0) : (stE x d).1 = stOf x d := by
  unfold stE at g ⊢
  rw [if_neg (fun h => h h0)] at g ⊢
  by_cases k : ¬ dayB d = true
  · rw [if_pos k] at g; exact absurd g (by decide)
  · rw [if_neg k]
theorem day_bd {d : Int} (h : dayB d = true) : -25567 ≤ d ∧ d ≤ 84005 := by unfold dayB at h; simpa using h
set_option maxHeartbeats 1000000 in
set_option maxRecDepth 100000 in
theorem lifeClo (x : Ins) (hx : x.Small) (h0 : chkE x = 0) (b : Nat) (d want : Int) (hw : dayB d = true → stOf x d = want) (w : World) (hG : Glob w) (x2 : IBox w b x) :
    Calls Tryz.prog 47 #[.int .i64 d, .int .i64 want, .pointer (some ⟨b, 0, none⟩)] w fun e w' => e = .returned (.bool true) ∧ Below w.heap.size w w' := by
  have c1 := jDay d
  have c2 := iState x hx d
  have hb := Below.refl w.heap.size w
  by_cases hd : dayB d = true
  · have hst : stE x d = (want, 0) := by unfold stE; rw [if_neg (fun h => h h0), if_neg (fun h => h hd), hw hd]
    rw [hst] at c2
    rw [dayE_t hd] at c1
    have C1 := Lib.hid c1
    have C2 := Lib.hid c2
    clear c1 c2 hst hd hw h0
    go_enter Tryz.func47, Tryz.ntmps47
    go_wp2_with fail
    ((with_reducible refine (C1.out.of hG hb).mono ?_); rintro e w2 ⟨rfl, hb2⟩)
    replace x2 := x2.below hb2
    replace hb := bto hb hb2
    clear hb2
    have qx2_0 := x2.c0
    have qx2_1 := x2.c1
    have qx2_2 := x2.c2
    have qx2_3 := x2.c3
    have qx2_4 := x2.c4
    have qx2_5 := x2.c5
    have qx2_6 := x2.c6
    have qx2_7 := x2.c7
    have qx2_8 := x2.c8
    have qx2_9 := x2.c9
    have qx2_10 := x2.c10
    have qx2_11 := x2.c11
    have qx2_12 := x2.c12
    have qx2_13 := x2.c13
    have qx2_14 := x2.c14
    go_wp2_with fail
    ((with_reducible refine (C2.out.of hG hb).mono ?_); rintro e w3 ⟨rfl, hb3⟩)
    clear qx2_0 qx2_1 qx2_2 qx2_3 qx2_4 qx2_5 qx2_6 qx2_7 qx2_8 qx2_9 qx2_10 qx2_11 qx2_12 qx2_13 qx2_14
    replace x2 := x2.below hb3
    replace hb := bto hb hb3
    clear hb3
    go_wp2
    go_ret
    exact ⟨rfl, hb⟩
  · have hst : stE x d = (0, 13) := by unfold stE; rw [if_neg (fun h => h h0), if_pos hd]
    rw [hst] at c2
    rw [dayE_f hd] at c1
    have C1 := Lib.hid c1
    have C2 := Lib.hid c2
    clear c1 c2 hst hd hw h0
    go_enter Tryz.func47, Tryz.ntmps47
    go_wp2_with fail
    ((with_reducible refine (C1.out.of hG hb).mono ?_); rintro e w2 ⟨rfl, hb2⟩)
    replace x2 := x2.below hb2
    replace hb := bto hb hb2
    clear hb2
    have qx2_0 := x2.c0
    have qx2_1 := x2.c1
    have qx2_2 := x2.c2
    have qx2_3 := x2.c3
    have qx2_4 := x2.c4
    have qx2_5 := x2.c5
    have qx2_6 := x2.c6
    have qx2_7 := x2.c7
    have qx2_8 := x2.c8
    have qx2_9 := x2.c9
    have qx2_10 := x2.c10
    have qx2_11 := x2.c11
    have qx2_12 := x2.c12
    have qx2_13 := x2.c13
    have qx2_14 := x2.c14
    go_wp2_with fail
    ((with_reducible refine (C2.out.of hG hb).mono ?_); rintro e w3 ⟨rfl, hb3⟩)
    clear qx2_0 qx2_1 qx2_2 qx2_3 qx2_4 qx2_5 qx2_6 qx2_7 qx2_8 qx2_9 qx2_10 qx2_11 qx2_12 qx2_13 qx2_14
    replace x2 := x2.below hb3
    replace hb := bto hb hb3
    clear hb3
    go_wp2
    go_ret
    exact ⟨rfl, hb⟩
set_option maxHeartbeats 4000000 in
set_option maxRecDepth 100000 in
theorem life_law (x : Ins) (d d' : Int) (w : World) (hG : Glob w) :
    Calls Tryz.prog 6 #[(Value.agg #[Value.string ⟨List.toArray x.id⟩, Value.int .i64 x.kind, Value.string ⟨List.toArray x.cur⟩, Value.int .i64 x.places, Value.int .i64 x.issued, Value.int .i64 x.matures, Value.string ⟨List.toArray x.fn⟩, Value.string ⟨List.toArray x.fd⟩, Value.string ⟨List.toArray x.cn⟩, Value.string ⟨List.toArray x.cd⟩, Value.int .i64 x.months, Value.int .i64 x.count, Value.string ⟨List.toArray x.other⟩, Value.string ⟨List.toArray x.sn⟩, Value.string ⟨List.toArray x.sd⟩]), .int .i64 d, .int .i64 d'] w fun e w' => e = .returned (.bool true) ∧ Below w.heap.size w w' := by
  have CW := Lib.hid rAwake10
  have x3 := IBox.new w x 47
  have hb := below_alloc w (.cells #[Value.string ⟨List.toArray x.id⟩, Value.int .i64 x.kind, Value.string ⟨List.toArray x.cur⟩, Value.int .i64 x.places, Value.int .i64 x.issued, Value.int .i64 x.matures, Value.string ⟨List.toArray x.fn⟩, Value.string ⟨List.toArray x.fd⟩, Value.string ⟨List.toArray x.cn⟩, Value.string ⟨List.toArray x.cd⟩, Value.int .i64 x.months, Value.int .i64 x.count, Value.string ⟨List.toArray x.other⟩, Value.string ⟨List.toArray x.sn⟩, Value.string ⟨List.toArray x.sd⟩] 47)
  have HGr := Lib.hid (great_one_life_law (w.alloc (.cells #[Value.string ⟨List.toArray x.id⟩, Value.int .i64 x.kind, Value.string ⟨List.toArray x.cur⟩, Value.int .i64 x.places, Value.int .i64 x.issued, Value.int .i64 x.matures, Value.string ⟨List.toArray x.fn⟩, Value.string ⟨List.toArray x.fd⟩, Value.string ⟨List.toArray x.cn⟩, Value.string ⟨List.toArray x.cd⟩, Value.int .i64 x.months, Value.int .i64 x.count, Value.string ⟨List.toArray x.other⟩, Value.string ⟨List.toArray x.sn⟩, Value.string ⟨List.toArray x.sd⟩] 47)) x 47 _ (World.size_alloc _ _))
  go_enter Tryz.func6, Tryz.ntmps6
  go_wp2_with fail
  ((with_reducible refine HGr.out.mono ?_); rintro e w1 ⟨hres, hb1⟩)
  replace x3 := x3.below hb1
  replace hb := bto hb hb1
  clear HGr hb1
  rcases hres with rfl | ⟨rfl, hx⟩
  · go_wp2_with fail
    ((with_reducible refine (CW.out.of hG hb).mono ?_); rintro e w2 ⟨rfl, hb2⟩)
    go_wp2
    go_ret
    exact ⟨rfl, bto hb hb2⟩
  have CK := Lib.hid (jCheck x hx)
  by_cases h0 : chkE x = 0
  · rw [h0] at CK
    have hok := chk_ok h0
    have hd := day_bd hok.1
    have hm := hok.2
    have h0' := Lib.hid h0
    clear hok
    have qx3_0 := x3.c0
    have qx3_1 := x3.c1
    have qx3_2 := x3.c2
    have qx3_3 := x3.c3
    have qx3_4 := x3.c4
    have qx3_5 := x3.c5
    have qx3_6 := x3.c6
    have qx3_7 := x3.c7
    have qx3_8 := x3.c8
    have qx3_9 := x3.c9
    have qx3_10 := x3.c10
    have qx3_11 := x3.c11
    have qx3_12 := x3.c12
    have qx3_13 := x3.c13
    have qx3_14 := x3.c14
    go_wp2_with fail
    ((with_reducible refine (CK.out.of hG hb).mono ?_); rintro e w2 ⟨rfl, hb2⟩)
    clear qx3_0 qx3_1 qx3_2 qx3_3 qx3_4 qx3_5 qx3_6 qx3_7 qx3_8 qx3_9 qx3_10 qx3_11 qx3_12 qx3_13 qx3_14
    replace x3 := x3.below hb2
    replace hb := bto hb hb2
    clear hb2
    clear CK
    by_cases m0 : x.matures = 0
    · have ma : x.matures ≤ 0 := by omega
      have mb : 0 ≤ x.matures := by omega
      clear hm m0
      have hcl := lifeClo x hx h0 w.heap.size (x.issued) 2 (fun _ => by unfold stOf; rw [if_neg (by omega), if_neg (by omega)]) w2 (hG.below hb) x3
      have HC := Lib.hid hcl
      clear hcl
      have qx3_0 := x3.c0
      have qx3_1 := x3.c1
      have qx3_2 := x3.c2
      have qx3_3 := x3.c3
      have qx3_4 := x3.c4
      have qx3_5 := x3.c5
      have qx3_6 := x3.c6
      have qx3_7 := x3.c7
      have qx3_8 := x3.c8
      have qx3_9 := x3.c9
      have qx3_10 := x3.c10
      have qx3_11 := x3.c11
      have qx3_12 := x3.c12
      have qx3_13 := x3.c13
      have qx3_14 := x3.c14
      go_wp2_with fail
      ((with_reducible refine HC.out.mono ?_); rintro e w3 ⟨rfl, hb3⟩)
      clear HC
      clear qx3_0 qx3_1 qx3_2 qx3_3 qx3_4 qx3_5 qx3_6 qx3_7 qx3_8 qx3_9 qx3_10 qx3_11 qx3_12 qx3_13 qx3_14
      replace x3 := x3.below hb3
      replace hb := bto hb hb3
      clear hb3
      have hcl := lifeClo x hx h0 w.heap.size (x.issued - 1) 1 (fun _ => by unfold stOf; rw [if_pos (by omega)]) w3 (hG.below hb) x3
      have HC := Lib.hid hcl
      clear hcl
      have qx3_0 := x3.c0
      have qx3_1 := x3.c1
      have qx3_2 := x3.c2
      have qx3_3 := x3.c3
      have qx3_4 := x3.c4
      have qx3_5 := x3.c5
      have qx3_6 := x3.c6
      have qx3_7 := x3.c7
      have qx3_8 := x3.c8
      have qx3_9 := x3.c9
      have qx3_10 := x3.c10
      have qx3_11 := x3.c11
      have qx3_12 := x3.c12
      have qx3_13 := x3.c13
      have qx3_14 := x3.c14
      go_wp2_with fail
      ((with_reducible refine HC.out.mono ?_); rintro e w4 ⟨rfl, hb4⟩)
      clear HC
      clear qx3_0 qx3_1 qx3_2 qx3_3 qx3_4 qx3_5 qx3_6 qx3_7 qx3_8 qx3_9 qx3_10 qx3_11 qx3_12 qx3_13 qx3_14
      replace x3 := x3.below hb4
      replace hb := bto hb hb4
      clear hb4
      have f2 : (x.matures == 0) = true := by rw [beq_iff_eq]; omega
      have f3 := bneq f2
      have hcl := lifeClo x hx h0 w.heap.size (84005) 2 (fun _ => by unfold stOf; rw [if_neg (by omega), if_neg (by omega)]) w4 (hG.below hb) x3
      have HC := Lib.hid hcl
      clear hcl
      have qx3_0 := x3.c0
      have qx3_1 := x3.c1
      have qx3_2 := x3.c2
      have qx3_3 := x3.c3
      have qx3_4 := x3.c4
      have qx3_5 := x3.c5
      have qx3_6 := x3.c6
      have qx3_7 := x3.c7
      have qx3_8 := x3.c8
      have qx3_9 := x3.c9
      have qx3_10 := x3.c10
      have qx3_11 := x3.c11
      have qx3_12 := x3.c12
      have qx3_13 := x3.c13
      have qx3_14 := x3.c14
      go_wp2_with fail
      ((with_reducible refine HC.out.mono ?_); rintro e w5 ⟨rfl, hb5⟩)
      clear HC
      clear qx3_0 qx3_1 qx3_2 qx3_3 qx3_4 qx3_5 qx3_6 qx3_7 qx3_8 qx3_9 qx3_10 qx3_11 qx3_12 qx3_13 qx3_14
      replace x3 := x3.below hb5
      replace hb := bto hb hb5
      clear hb5
      have c1 := iState x hx d
      have c2 := iState x hx d'
      have HR : Hid ((stE x d).2 = 0 → (stE x d').2 = 0 → d ≤ d' → (stE x d).1 ≤ (stE x d').1) := by intro g1 g2 g3; rw [stE_ok h0 g1, stE_ok h0 g2]; exact st_mono g3
      have HL : Hid ((stE x d).2 = 0 → 1 ≤ (stE x d).1) := by intro g1; rw [stE_ok h0 g1]; exact (st_bd x d).1
      have HU : Hid ((stE x d').2 = 0 → (stE x d').1 ≤ 3) := by intro g1; rw [stE_ok h0 g1]; exact (st_bd x d').2
      generalize (stE x d).1 = v1 at *
      generalize (stE x d).2 = v2 at *
      generalize (stE x d').1 = v3 at *
      generalize (stE x d').2 = v4 at *
      have D1 := Lib.hid c1
      have D2 := Lib.hid c2
      clear c1 c2
      have qx3_0 := x3.c0
      have qx3_1 := x3.c1
      have qx3_2 := x3.c2
      have qx3_3 := x3.c3
      have qx3_4 := x3.c4
      have qx3_5 := x3.c5
      have qx3_6 := x3.c6
      have qx3_7 := x3.c7
      have qx3_8 := x3.c8
      have qx3_9 := x3.c9
      have qx3_10 := x3.c10
      have qx3_11 := x3.c11
      have qx3_12 := x3.c12
      have qx3_13 := x3.c13
      have qx3_14 := x3.c14
      go_wp2_with fail
      ((with_reducible refine (D1.out.of hG hb).mono ?_); rintro e w6 ⟨rfl, hb6⟩)
      clear qx3_0 qx3_1 qx3_2 qx3_3 qx3_4 qx3_5 qx3_6 qx3_7 qx3_8 qx3_9 qx3_10 qx3_11 qx3_12 qx3_13 qx3_14
      replace x3 := x3.below hb6
      replace hb := bto hb hb6
      clear hb6
      have qx3_0 := x3.c0
      have qx3_1 := x3.c1
      have qx3_2 := x3.c2
      have qx3_3 := x3.c3
      have qx3_4 := x3.c4
      have qx3_5 := x3.c5
      have qx3_6 := x3.c6
      have qx3_7 := x3.c7
      have qx3_8 := x3.c8
      have qx3_9 := x3.c9
      have qx3_10 := x3.c10
      have qx3_11 := x3.c11
      have qx3_12 := x3.c12
      have qx3_13 := x3.c13
      have qx3_14 := x3.c14
      go_wp2_with fail
      ((with_reducible refine (D2.out.of hG hb).mono ?_); rintro e w7 ⟨rfl, hb7⟩)
      clear qx3_0 qx3_1 qx3_2 qx3_3 qx3_4 qx3_5 qx3_6 qx3_7 qx3_8 qx3_9 qx3_10 qx3_11 qx3_12 qx3_13 qx3_14
      replace x3 := x3.below hb7
      replace hb := bto hb hb7
      clear hb7
      by_cases g1 : v2 = 0
      · have k1 : (v2 == 0) = true := by rw [beq_iff_eq]; exact g1
        by_cases g2 : v4 = 0
        · have k2 : (v4 == 0) = true := by rw [beq_iff_eq]; exact g2
          by_cases g3 : d ≤ d'
          · have k3 : decide (d ≤ d') = true := decide_eq_true g3
            have m1 := HR.out g1 g2 g3
            have m2 := HL.out g1
            have m3 := HU.out g2
            have k4 : decide (v3 < v1) = false := decide_eq_false (by omega)
            have k5 : decide (v1 < 1) = false := decide_eq_false (by omega)
            have k6 : decide (3 < v3) = false := decide_eq_false (by omega)
            have k7 : ¬ v3 < v1 := by omega
            have k8 : ¬ v1 < 1 := by omega
            have k9 : ¬ 3 < v3 := by omega
            clear g1 g2 HR HL HU
            go_wp2_with fail
            ((with_reducible refine (CW.out.of hG hb).mono ?_); rintro e w8 ⟨rfl, hb8⟩)
            replace x3 := x3.below hb8
            replace hb := bto hb hb8
            clear hb8
            go_wp2
            go_ret
            exact ⟨rfl, hb⟩
          · have k3 : decide (d ≤ d') = false := decide_eq_false g3
            clear g1 g2 HR HL HU
            go_wp2_with fail
            ((with_reducible refine (CW.out.of hG hb).mono ?_); rintro e w8 ⟨rfl, hb8⟩)
            replace x3 := x3.below hb8
            replace hb := bto hb hb8
            clear hb8
            go_wp2
            go_ret
            exact ⟨rfl, hb⟩
        · have k2 : (v4 == 0) = false := by rw [beq_eq_false_iff_ne]; exact g2
          clear g1 g2 HR HL HU
          go_wp2_with fail
          ((with_reducible refine (CW.out.of hG hb).mono ?_); rintro e w8 ⟨rfl, hb8⟩)
          replace x3 := x3.below hb8
          replace hb := bto hb hb8
          clear hb8
          go_wp2
          go_ret
          exact ⟨rfl, hb⟩
      · have k1 : (v2 == 0) = false := by rw [beq_eq_false_iff_ne]; exact g1
        clear g1 HR HL HU
        go_wp2_with fail
        ((with_reducible refine (CW.out.of hG hb).mono ?_); rintro e w8 ⟨rfl, hb8⟩)
        replace x3 := x3.below hb8
        replace hb := bto hb hb8
        clear hb8
        go_wp2
        go_ret
        exact ⟨rfl, hb⟩
    · obtain ⟨md, mi⟩ := mat_no hm m0
      have md' := day_bd md
      clear hm md
      have hcl := lifeClo x hx h0 w.heap.size (x.issued) 2 (fun _ => by unfold stOf; rw [if_neg (by omega), if_neg (by omega)]) w2 (hG.below hb) x3
      have HC := Lib.hid hcl
      clear hcl
      have qx3_0 := x3.c0
      have qx3_1 := x3.c1
      have qx3_2 := x3.c2
      have qx3_3 := x3.c3
      have qx3_4 := x3.c4
      have qx3_5 := x3.c5
      have qx3_6 := x3.c6
      have qx3_7 := x3.c7
      have qx3_8 := x3.c8
      have qx3_9 := x3.c9
      have qx3_10 := x3.c10
      have qx3_11 := x3.c11
      have qx3_12 := x3.c12
      have qx3_13 := x3.c13
      have qx3_14 := x3.c14
      go_wp2_with fail
      ((with_reducible refine HC.out.mono ?_); rintro e w3 ⟨rfl, hb3⟩)
      clear HC
      clear qx3_0 qx3_1 qx3_2 qx3_3 qx3_4 qx3_5 qx3_6 qx3_7 qx3_8 qx3_9 qx3_10 qx3_11 qx3_12 qx3_13 qx3_14
      replace x3 := x3.below hb3
      replace hb := bto hb hb3
      clear hb3
      have hcl := lifeClo x hx h0 w.heap.size (x.issued - 1) 1 (fun _ => by unfold stOf; rw [if_pos (by omega)]) w3 (hG.below hb) x3
      have HC := Lib.hid hcl
      clear hcl
      have qx3_0 := x3.c0
      have qx3_1 := x3.c1
      have qx3_2 := x3.c2
      have qx3_3 := x3.c3
      have qx3_4 := x3.c4
      have qx3_5 := x3.c5
      have qx3_6 := x3.c6
      have qx3_7 := x3.c7
      have qx3_8 := x3.c8
      have qx3_9 := x3.c9
      have qx3_10 := x3.c10
      have qx3_11 := x3.c11
      have qx3_12 := x3.c12
      have qx3_13 := x3.c13
      have qx3_14 := x3.c14
      go_wp2_with fail
      ((with_reducible refine HC.out.mono ?_); rintro e w4 ⟨rfl, hb4⟩)
      clear HC
      clear qx3_0 qx3_1 qx3_2 qx3_3 qx3_4 qx3_5 qx3_6 qx3_7 qx3_8 qx3_9 qx3_10 qx3_11 qx3_12 qx3_13 qx3_14
      replace x3 := x3.below hb4
      replace hb := bto hb hb4
      clear hb4
      have f2 : (x.matures == 0) = false := by rw [beq_eq_false_iff_ne]; exact m0
      have f3 := bneq' f2
      have hcl := lifeClo x hx h0 w.heap.size (x.matures) 2 (fun _ => by unfold stOf; rw [if_neg (by omega), if_neg (by omega)]) w4 (hG.below hb) x3
      have HC := Lib.hid hcl
      clear hcl
      have qx3_0 := x3.c0
      have qx3_1 := x3.c1
      have qx3_2 := x3.c2
      have qx3_3 := x3.c3
      have qx3_4 := x3.c4
      have qx3_5 := x3.c5
      have qx3_6 := x3.c6
      have qx3_7 := x3.c7
      have qx3_8 := x3.c8
      have qx3_9 := x3.c9
      have qx3_10 := x3.c10
      have qx3_11 := x3.c11
      have qx3_12 := x3.c12
      have qx3_13 := x3.c13
      have qx3_14 := x3.c14
      go_wp2_with fail
      ((with_reducible refine HC.out.mono ?_); rintro e w5 ⟨rfl, hb5⟩)
      clear HC
      clear qx3_0 qx3_1 qx3_2 qx3_3 qx3_4 qx3_5 qx3_6 qx3_7 qx3_8 qx3_9 qx3_10 qx3_11 qx3_12 qx3_13 qx3_14
      replace x3 := x3.below hb5
      replace hb := bto hb hb5
      clear hb5
      have hcl := lifeClo x hx h0 w.heap.size (x.matures + 1) 3 (fun _ => by unfold stOf; rw [if_neg (by omega), if_pos ⟨m0, by omega⟩]) w5 (hG.below hb) x3
      have HC := Lib.hid hcl
      clear hcl
      have qx3_0 := x3.c0
      have qx3_1 := x3.c1
      have qx3_2 := x3.c2
      have qx3_3 := x3.c3
      have qx3_4 := x3.c4
      have qx3_5 := x3.c5
      have qx3_6 := x3.c6
      have qx3_7 := x3.c7
      have qx3_8 := x3.c8
      have qx3_9 := x3.c9
      have qx3_10 := x3.c10
      have qx3_11 := x3.c11
      have qx3_12 := x3.c12
      have qx3_13 := x3.c13
      have qx3_14 := x3.c14
      go_wp2_with fail
      ((with_reducible refine HC.out.mono ?_); rintro e w6 ⟨rfl, hb6⟩)
      clear HC
      clear qx3_0 qx3_1 qx3_2 qx3_3 qx3_4 qx3_5 qx3_6 qx3_7 qx3_8 qx3_9 qx3_10 qx3_11 qx3_12 qx3_13 qx3_14
      replace x3 := x3.below hb6
      replace hb := bto hb hb6
      clear hb6
      have c1 := iState x hx d
      have c2 := iState x hx d'
      have HR : Hid ((stE x d).2 = 0 → (stE x d').2 = 0 → d ≤ d' → (stE x d).1 ≤ (stE x d').1) := by intro g1 g2 g3; rw [stE_ok h0 g1, stE_ok h0 g2]; exact st_mono g3
      have HL : Hid ((stE x d).2 = 0 → 1 ≤ (stE x d).1) := by intro g1; rw [stE_ok h0 g1]; exact (st_bd x d).1
      have HU : Hid ((stE x d').2 = 0 → (stE x d').1 ≤ 3) := by intro g1; rw [stE_ok h0 g1]; exact (st_bd x d').2
      generalize (stE x d).1 = v1 at *
      generalize (stE x d).2 = v2 at *
      generalize (stE x d').1 = v3 at *
      generalize (stE x d').2 = v4 at *
      have D1 := Lib.hid c1
      have D2 := Lib.hid c2
      clear c1 c2
      have qx3_0 := x3.c0
      have qx3_1 := x3.c1
      have qx3_2 := x3.c2
      have qx3_3 := x3.c3
      have qx3_4 := x3.c4
      have qx3_5 := x3.c5
      have qx3_6 := x3.c6
      have qx3_7 := x3.c7
      have qx3_8 := x3.c8
      have qx3_9 := x3.c9
      have qx3_10 := x3.c10
      have qx3_11 := x3.c11
      have qx3_12 := x3.c12
      have qx3_13 := x3.c13
      have qx3_14 := x3.c14
      go_wp2_with fail
      ((with_reducible refine (D1.out.of hG hb).mono ?_); rintro e w7 ⟨rfl, hb7⟩)
      clear qx3_0 qx3_1 qx3_2 qx3_3 qx3_4 qx3_5 qx3_6 qx3_7 qx3_8 qx3_9 qx3_10 qx3_11 qx3_12 qx3_13 qx3_14
      replace x3 := x3.below hb7
      replace hb := bto hb hb7
      clear hb7
      have qx3_0 := x3.c0
      have qx3_1 := x3.c1
      have qx3_2 := x3.c2
      have qx3_3 := x3.c3
      have qx3_4 := x3.c4
      have qx3_5 := x3.c5
      have qx3_6 := x3.c6
      have qx3_7 := x3.c7
      have qx3_8 := x3.c8
      have qx3_9 := x3.c9
      have qx3_10 := x3.c10
      have qx3_11 := x3.c11
      have qx3_12 := x3.c12
      have qx3_13 := x3.c13
      have qx3_14 := x3.c14
      go_wp2_with fail
      ((with_reducible refine (D2.out.of hG hb).mono ?_); rintro e w8 ⟨rfl, hb8⟩)
      clear qx3_0 qx3_1 qx3_2 qx3_3 qx3_4 qx3_5 qx3_6 qx3_7 qx3_8 qx3_9 qx3_10 qx3_11 qx3_12 qx3_13 qx3_14
      replace x3 := x3.below hb8
      replace hb := bto hb hb8
      clear hb8
      by_cases g1 : v2 = 0
      · have k1 : (v2 == 0) = true := by rw [beq_iff_eq]; exact g1
        by_cases g2 : v4 = 0
        · have k2 : (v4 == 0) = true := by rw [beq_iff_eq]; exact g2
          by_cases g3 : d ≤ d'
          · have k3 : decide (d ≤ d') = true := decide_eq_true g3
            have m1 := HR.out g1 g2 g3
            have m2 := HL.out g1
            have m3 := HU.out g2
            have k4 : decide (v3 < v1) = false := decide_eq_false (by omega)
            have k5 : decide (v1 < 1) = false := decide_eq_false (by omega)
            have k6 : decide (3 < v3) = false := decide_eq_false (by omega)
            have k7 : ¬ v3 < v1 := by omega
            have k8 : ¬ v1 < 1 := by omega
            have k9 : ¬ 3 < v3 := by omega
            clear g1 g2 HR HL HU
            go_wp2_with fail
            ((with_reducible refine (CW.out.of hG hb).mono ?_); rintro e w9 ⟨rfl, hb9⟩)
            replace x3 := x3.below hb9
            replace hb := bto hb hb9
            clear hb9
            go_wp2
            go_ret
            exact ⟨rfl, hb⟩
          · have k3 : decide (d ≤ d') = false := decide_eq_false g3
            clear g1 g2 HR HL HU
            go_wp2_with fail
            ((with_reducible refine (CW.out.of hG hb).mono ?_); rintro e w9 ⟨rfl, hb9⟩)
            replace x3 := x3.below hb9
            replace hb := bto hb hb9
            clear hb9
            go_wp2
            go_ret
            exact ⟨rfl, hb⟩
        · have k2 : (v4 == 0) = false := by rw [beq_eq_false_iff_ne]; exact g2
          clear g1 g2 HR HL HU
          go_wp2_with fail
          ((with_reducible refine (CW.out.of hG hb).mono ?_); rintro e w9 ⟨rfl, hb9⟩)
          replace x3 := x3.below hb9
          replace hb := bto hb hb9
          clear hb9
          go_wp2
          go_ret
          exact ⟨rfl, hb⟩
      · have k1 : (v2 == 0) = false := by rw [beq_eq_false_iff_ne]; exact g1
        clear g1 HR HL HU
        go_wp2_with fail
        ((with_reducible refine (CW.out.of hG hb).mono ?_); rintro e w9 ⟨rfl, hb9⟩)
        replace x3 := x3.below hb9
        replace hb := bto hb hb9
        clear hb9
        go_wp2
        go_ret
        exact ⟨rfl, hb⟩
  · have e1 : (chkE x == 0) = false := by rw [beq_eq_false_iff_ne]; exact h0
    have e2 := bneq' e1
    have qx3_0 := x3.c0
    have qx3_1 := x3.c1
    have qx3_2 := x3.c2
    have qx3_3 := x3.c3
    have qx3_4 := x3.c4
    have qx3_5 := x3.c5
    have qx3_6 := x3.c6
    have qx3_7 := x3.c7
    have qx3_8 := x3.c8
    have qx3_9 := x3.c9
    have qx3_10 := x3.c10
    have qx3_11 := x3.c11
    have qx3_12 := x3.c12
    have qx3_13 := x3.c13
    have qx3_14 := x3.c14
    go_wp2_with fail
    ((with_reducible refine (CK.out.of hG hb).mono ?_); rintro e w2 ⟨rfl, hb2⟩)
    clear qx3_0 qx3_1 qx3_2 qx3_3 qx3_4 qx3_5 qx3_6 qx3_7 qx3_8 qx3_9 qx3_10 qx3_11 qx3_12 qx3_13 qx3_14
    replace x3 := x3.below hb2
    replace hb := bto hb hb2
    clear hb2
    go_wp2_with fail
    ((with_reducible refine (CW.out.of hG hb).mono ?_); rintro e w3 ⟨rfl, hb3⟩)
    replace x3 := x3.below hb3
    replace hb := bto hb hb3
    clear hb3
    go_wp2
    go_ret
    exact ⟨rfl, hb⟩
end Go.Proofs.YtdbmjbcgcajojaaGreatDoor
