/- DecimalModes. -/
import Derived.Test.YtmmhimgkpfcokaaGreatDoorDg
namespace Go.Proofs.YtmmhimgkpfcokaaGreatDoor
open Go.RowKit Num
theorem Blk.set {w : World} {b : Nat} {cs : Array Value} (h : Blk w b cs) (i : Nat) (v : Value) : Blk (w.setCell ⟨b, i, none⟩ v) b (cs.setIfInBounds i v) := by
  obtain ⟨t, h⟩ := h
  exact ⟨t, by simp [World.setCell, Array.getElem?_modify, h]⟩
theorem Blk.cast {w : World} {b : Nat} {cs cs' : Array Value} (h : Blk w b cs) (e : cs = cs') : Blk w b cs' := e ▸ h
theorem Blk.setNe {w : World} {b c : Nat} {cs : Array Value} (h : Blk w b cs) (hn : b ≠ c) (i : Nat) (v : Value) : Blk (w.setCell ⟨c, i, none⟩ v) b cs := by
  obtain ⟨t, h⟩ := h
  exact ⟨t, (Below.heap_setCell _ ⟨c, i, none⟩ _ _ hn).trans h⟩
theorem FBox.setCellNe {W : World} {b c : Nat} {u v : Value} (h : FBox W b u v) (hn : b ≠ c) (i : Nat) (x : Value) : FBox (W.setCell ⟨c, i, none⟩ x) b u v := by
  have c0 := h.c0; have c1 := h.c1; have f0 := h.f0; have f1 := h.f1; have lt := h.lt
  refine ⟨by simp [go_sem, c0], by simp [go_sem, c1], by simp [go_sem, f0], by simp [go_sem, f1], by simp [lt]⟩
theorem bdr' {w w' : World} (h : Below w.heap.size w w') : Below w.heap.size w w'.drew := bto h (bdr w')
theorem rnd_abs {q : Rat} {k : Nat} (b : Bd k q) (m : Int) : (rnd q m).natAbs < 10 ^ (k + 1) := by
  have h2 := rnd_le q m
  have h3 := fl_abs q
  have h4 := b.1
  rw [Nat.pow_succ]
  omega
/-- what a row of seven strings holds, up to a mode -/
def upTo (g : Int → List UInt8) (m : Int) (i : Int) : Value := if i < m then .string ⟨(g i).toArray⟩ else .string ⟨#[]⟩
def arr7 (g : Int → List UInt8) (m : Int) : Array Value := #[.string ⟨#[]⟩, upTo g m 1, upTo g m 2, upTo g m 3, upTo g m 4, upTo g m 5, upTo g m 6]
theorem arr7_1 (g : Int → List UInt8) : arr7 g 1 = #[.string ⟨#[]⟩, .string ⟨#[]⟩, .string ⟨#[]⟩, .string ⟨#[]⟩, .string ⟨#[]⟩, .string ⟨#[]⟩, .string ⟨#[]⟩] := by unfold arr7 upTo; simp
theorem arr7_2 (g : Int → List UInt8) : arr7 g 2 = #[.string ⟨#[]⟩, .string ⟨(g 1).toArray⟩, .string ⟨#[]⟩, .string ⟨#[]⟩, .string ⟨#[]⟩, .string ⟨#[]⟩, .string ⟨#[]⟩] := by unfold arr7 upTo; simp
theorem arr7_3 (g : Int → List UInt8) : arr7 g 3 = #[.string ⟨#[]⟩, .string ⟨(g 1).toArray⟩, .string ⟨(g 2).toArray⟩, .string ⟨#[]⟩, .string ⟨#[]⟩, .string ⟨#[]⟩, .string ⟨#[]⟩] := by unfold arr7 upTo; simp
theorem arr7_4 (g : Int → List UInt8) : arr7 g 4 = #[.string ⟨#[]⟩, .string ⟨(g 1).toArray⟩, .string ⟨(g 2).toArray⟩, .string ⟨(g 3).toArray⟩, .string ⟨#[]⟩, .string ⟨#[]⟩, .string ⟨#[]⟩] := by unfold arr7 upTo; simp
theorem arr7_5 (g : Int → List UInt8) : arr7 g 5 = #[.string ⟨#[]⟩, .string ⟨(g 1).toArray⟩, .string ⟨(g 2).toArray⟩, .string ⟨(g 3).toArray⟩, .string ⟨(g 4).toArray⟩, .string ⟨#[]⟩, .string ⟨#[]⟩] := by unfold arr7 upTo; simp
theorem arr7_6 (g : Int → List UInt8) : arr7 g 6 = #[.string ⟨#[]⟩, .string ⟨(g 1).toArray⟩, .string ⟨(g 2).toArray⟩, .string ⟨(g 3).toArray⟩, .string ⟨(g 4).toArray⟩, .string ⟨(g 5).toArray⟩, .string ⟨#[]⟩] := by unfold arr7 upTo; simp
theorem arr7_7 (g : Int → List UInt8) : arr7 g 7 = #[.string ⟨#[]⟩, .string ⟨(g 1).toArray⟩, .string ⟨(g 2).toArray⟩, .string ⟨(g 3).toArray⟩, .string ⟨(g 4).toArray⟩, .string ⟨(g 5).toArray⟩, .string ⟨(g 6).toArray⟩] := by unfold arr7 upTo; simp
theorem mode_fl (q : Rat) (m : Int) : rnd q m = rnd q 5 ∨ rnd q m = rnd q 6 := by
  rw [rnd_floor, rnd_ceil]
  rcases rnd_or q m with h | ⟨h, h0⟩
  · exact .inl h
  · right; rw [h, if_neg (fun e => h0 ((den_one q).1 e))]
theorem fl_le_ceil (q : Rat) : (rnd q 5 : Rat) ≤ q ∧ q ≤ (rnd q 6 : Rat) ∧ (q.den = 1 → rnd q 5 = rnd q 6) ∧ (¬ q.den = 1 → rnd q 5 + 1 = rnd q 6) := by
  have h1 := fl_le q
  have h2 := lt_fl q
  rw [rnd_floor, rnd_ceil]
  refine ⟨h1, ?_, fun h => by rw [if_pos h], fun h => by rw [if_neg h]⟩
  split
  · next h => have := (den_one q).1 h; grind
  · rw [Rat.intCast_add]; grind
theorem down_up (q : Rat) : (q < 0 → rnd q 4 = rnd q 5 ∧ rnd q 3 = rnd q 6) ∧ (¬ q < 0 → rnd q 3 = rnd q 5 ∧ rnd q 4 = rnd q 6) := by
  have hf := fl_neg q
  constructor
  · intro h
    have h1 := hf.1 h
    unfold rnd
    by_cases hd : q.den = 1
    · simp [hd]
    · have h2 : ¬ 0 ≤ q.floor := by omega
      simp [hd, upB, h1, h2]
  · intro h
    have h1 : ¬ q.floor < 0 := fun h2 => h (hf.2 h2)
    unfold rnd
    by_cases hd : q.den = 1
    · simp [hd]
    · have h2 : 0 ≤ q.floor := by omega
      simp [hd, upB, h1, h2]
/-- what the law meets: the roundings L of a number, the opposites N of those of the opposite -/
structure Modes (L N : Int → List UInt8) : Prop where
  same : ∀ m, 1 ≤ m → m ≤ 4 → N m = L m
  n5 : N 5 = L 6
  n6 : N 6 = L 5
  one : ∀ m, L m = L 5 ∨ L m = L 6
theorem modes (q : Rat) : Modes (fun m => canon (rnd q m)) (fun m => canon (-(rnd (-q) m))) := by
  refine ⟨fun m h1 h4 => ?_, ?_, ?_, fun m => ?_⟩
  · show canon _ = canon _; rw [rnd_neg q m h1 h4, Int.neg_neg]
  · show canon _ = canon _; rw [(rnd_neg56 q).1, Int.neg_neg]
  · show canon _ = canon _; rw [(rnd_neg56 q).2, Int.neg_neg]
  · rcases mode_fl q m with h | h
    · left; show canon _ = canon _; rw [h]
    · right; show canon _ = canon _; rw [h]
set_option maxHeartbeats 8000000 in
set_option maxRecDepth 100000 in
theorem modes_law (l l' : List UInt8) (w : World) (hG : Glob w) :
    Calls Tryz.prog 8 #[(Value.agg #[Value.string ⟨List.toArray l⟩, Value.string ⟨List.toArray l'⟩])] w fun e w' => e = .returned (.bool true) ∧ Below w.heap.size w w' := by
  have CW := Lib.hid wAwake3
  have CL := Lib.hid (eLongFrac l l')
  have x1 := FBox.new w (.string ⟨l.toArray⟩) (.string ⟨l'.toArray⟩) 32
  have hb := below_alloc w (.cells #[.string ⟨l.toArray⟩, .string ⟨l'.toArray⟩] 32)
  go_enter Tryz.func8, Tryz.ntmps8
  have qx1_0 := x1.c0
  have qx1_1 := x1.c1
  go_wp2_with fail
  ((with_reducible refine (CL.out.of hG hb).mono ?_); rintro e w2 ⟨rfl, hb2⟩)
  clear qx1_0 qx1_1
  replace x1 := x1.below hb2
  replace hb := bto hb hb2
  clear hb2
  cases hlong : longB l l'
  rotate_left
  · clear x1
    go_wp2_with fail
    ((with_reducible refine (CW.out.of hG hb).mono ?_); rintro e w3 ⟨rfl, hb3⟩)
    replace hb := bto hb hb3
    clear hb3
    go_wp2
    go_ret
    exact ⟨rfl, hb⟩
  obtain ⟨h0, h1⟩ := longB_f hlong
  clear hlong
  have iF := isq_raw h0 h1 (by decide)
  have bF : Bd 60 (fv l l') := bd_fv h0 h1 (by decide)
  generalize fv l l' = q at iF bF
  have hM := modes q
  have hfc := fl_le_ceil q
  have hdu := down_up q
  have cR1 : ∀ m : Int, 1 ≤ m → m ≤ 6 → Ret 48 #[(Value.agg #[Value.string ⟨List.toArray l⟩, Value.string ⟨List.toArray l'⟩]), .int .i64 m] (.tuple #[.string ⟨(canon (rnd q m)).toArray⟩, .int .i64 0]) := fun m h1 h6 => rRound iF bF (by decide) h1 h6 rfl
  have cN := rNeg iF rfl
  have bN := bd_neg bF
  have cR2 : ∀ m : Int, 1 ≤ m → m ≤ 6 → Ret 48 #[(Value.agg #[Value.string ⟨List.toArray (fN (-q))⟩, Value.string ⟨List.toArray (fD (-q))⟩]), .int .i64 m] (.tuple #[.string ⟨(canon (rnd (-q) m)).toArray⟩, .int .i64 0]) := fun m h1 h6 => rRound (isq_fr bN (by decide)) bN (by decide) h1 h6 rfl
  have cG : ∀ m : Int, Ret 54 #[.string ⟨(canon (rnd (-q) m)).toArray⟩] (.string ⟨(canon (-(rnd (-q) m))).toArray⟩) := fun m => riNeg (canon_len_of (rnd_abs bN m) (by decide)) (by rw [val_canon])
  have l5 : (canon (rnd q 5)).length ≤ 100 := canon_len_of (rnd_abs bF 5) (by decide)
  have l6 : (canon (rnd q 6)).length ≤ 100 := canon_len_of (rnd_abs bF 6) (by decide)
  have b5 := bd_int (rnd_abs bF 5) (by decide)
  have b6 := bd_int (rnd_abs bF 6) (by decide)
  have cO5 := rOf (l := canon (rnd q 5)) (by omega) (val_canon _)
  have cO6 := rOf (l := canon (rnd q 6)) (by omega) (val_canon _)
  have cC5 := rCompare (isq_fr b5 (by decide)) iF rfl
  have cC6 := rCompare iF (isq_fr b6 (by decide)) rfl
  have h5 : ¬ 0 < cmpQ (rnd q 5 : Rat) q := by have := cmpQ_np hfc.1; omega
  have h6 : ¬ 0 < cmpQ q (rnd q 6 : Rat) := by have := cmpQ_np hfc.2.1; omega
  have cA := riAdd (l := canon (rnd q 5)) (l' := [49]) (by omega) (by decide) (show val (canon (rnd q 5)) + val [49] = rnd q 5 + 1 by rw [val_canon]; rfl)
  have hdn : q.den = 1 ∨ ¬ q.den = 1 := by by_cases h : q.den = 1 <;> simp [h]
  have hd1 : q.den = 1 → canon (rnd q 6) = canon (rnd q 5) := fun h => by rw [hfc.2.2.1 h]
  have hd0 : ¬ q.den = 1 → canon (rnd q 5 + 1) = canon (rnd q 6) ∧ canon (rnd q 5) ≠ canon (rnd q 6) := fun h => by
    have := hfc.2.2.2 h
    exact ⟨by rw [this], fun e => by have := canon_inj e; omega⟩
  have b0 : Bd 1 (0 : Rat) := ⟨by decide, by decide⟩
  have cR0 := wRatio (n := 0) (d := 1) (by decide) (by decide) (by decide) (show Rat.divInt 0 1 = 0 by decide +kernel)
  have cCz := rCompare iF (isq_fr b0 (by decide)) rfl
  have hng : cmpQ q 0 < 0 → canon (rnd q 4) = canon (rnd q 5) ∧ canon (rnd q 3) = canon (rnd q 6) := fun h => by
    obtain ⟨a, b⟩ := hdu.1 ((cmpQ_neg q 0).1 h); exact ⟨by rw [a], by rw [b]⟩
  have hps : ¬ cmpQ q 0 < 0 → canon (rnd q 3) = canon (rnd q 5) ∧ canon (rnd q 4) = canon (rnd q 6) := fun h => by
    obtain ⟨a, b⟩ := hdu.2 (fun h2 => h ((cmpQ_neg q 0).2 h2)); exact ⟨by rw [a], by rw [b]⟩
  generalize hLd : (fun m => canon (rnd q m)) = L at hM
  generalize hNd : (fun m => canon (-(rnd (-q) m))) = N at hM
  have eL : ∀ m, canon (rnd q m) = L m := fun m => by rw [← hLd]
  have eN : ∀ m, canon (-(rnd (-q) m)) = N m := fun m => by rw [← hNd]
  simp only [eL] at cR1 cO5 cO6 cA hd1 hd0 hng hps l5 l6
  simp only [eN] at cG
  clear hLd hNd eL eN hfc hdu iF bF bN b5 b6 b0 h0 h1
  generalize hKd : (fun m => canon (rnd (-q) m)) = K
  have eK : ∀ m, canon (rnd (-q) m) = K m := fun m => by rw [← hKd]
  simp only [eK] at cR2 cG
  clear hKd eK
  generalize fN (-q) = Q0 at *
  generalize fD (-q) = Q1 at *
  generalize cmpQ (rnd q 5 : Rat) q = c5 at *
  generalize cmpQ q (rnd q 6 : Rat) = c6 at *
  generalize cmpQ q 0 = cz at *
  generalize fN (rnd q 5 : Rat) = A0 at *
  generalize fD (rnd q 5 : Rat) = A1 at *
  generalize fN (rnd q 6 : Rat) = B0 at *
  generalize fD (rnd q 6 : Rat) = B1 at *
  generalize canon (rnd q 5 + 1) = LA at *
  generalize fN (0 : Rat) = Z0 at *
  generalize fD (0 : Rat) = Z1 at *
  have R1 := Lib.hid cR1
  have R2 := Lib.hid cR2
  have CN := Lib.hid cN
  have CG := Lib.hid cG
  have O5 := Lib.hid cO5
  have O6 := Lib.hid cO6
  have C5 := Lib.hid cC5
  have C6 := Lib.hid cC6
  have CA := Lib.hid cA
  have R0 := Lib.hid cR0
  have CZ := Lib.hid cCz
  have HM := Lib.hid hM
  have HD1 := Lib.hid hd1
  have HD0 := Lib.hid hd0
  have HDN := Lib.hid hdn
  have HNG := Lib.hid hng
  have HPS := Lib.hid hps
  clear cR1 cR2 cN cG cO5 cO6 cC5 cC6 cA cR0 cCz hM hd1 hd0 hdn hng hps
  have hx1lt := x1.lt
  have y3 := Blk.new w2 #[.string ⟨#[]⟩, .string ⟨#[]⟩, .string ⟨#[]⟩, .string ⟨#[]⟩, .string ⟨#[]⟩, .string ⟨#[]⟩, .string ⟨#[]⟩] 73
  have hb3 := below_alloc w2 (.cells #[.string ⟨#[]⟩, .string ⟨#[]⟩, .string ⟨#[]⟩, .string ⟨#[]⟩, .string ⟨#[]⟩, .string ⟨#[]⟩, .string ⟨#[]⟩] 73)
  have y4 := Blk.new (w2.alloc (.cells #[.string ⟨#[]⟩, .string ⟨#[]⟩, .string ⟨#[]⟩, .string ⟨#[]⟩, .string ⟨#[]⟩, .string ⟨#[]⟩, .string ⟨#[]⟩] 73)) #[.string ⟨#[]⟩, .string ⟨#[]⟩, .string ⟨#[]⟩, .string ⟨#[]⟩, .string ⟨#[]⟩, .string ⟨#[]⟩, .string ⟨#[]⟩] 73
  have hb4 := below_alloc (w2.alloc (.cells #[.string ⟨#[]⟩, .string ⟨#[]⟩, .string ⟨#[]⟩, .string ⟨#[]⟩, .string ⟨#[]⟩, .string ⟨#[]⟩, .string ⟨#[]⟩] 73)) (.cells #[.string ⟨#[]⟩, .string ⟨#[]⟩, .string ⟨#[]⟩, .string ⟨#[]⟩, .string ⟨#[]⟩, .string ⟨#[]⟩, .string ⟨#[]⟩] 73)
  replace y3 := y3.below hb4
  replace x1 := (x1.below hb3).below hb4
  rw [World.size_alloc] at y4
  have hge : w.heap.size ≤ w2.heap.size := hb.size
  replace hb := bto (bto hb hb3) hb4
  clear hb3 hb4
  rw [show #[.string ⟨#[]⟩, .string ⟨#[]⟩, .string ⟨#[]⟩, .string ⟨#[]⟩, .string ⟨#[]⟩, .string ⟨#[]⟩, .string ⟨#[]⟩] = arr7 L 1 from (arr7_1 L).symm] at y3
  rw [show #[.string ⟨#[]⟩, .string ⟨#[]⟩, .string ⟨#[]⟩, .string ⟨#[]⟩, .string ⟨#[]⟩, .string ⟨#[]⟩, .string ⟨#[]⟩] = arr7 N 1 from (arr7_1 N).symm] at y4
  go_wp2_with fail
  obtain ⟨n3, hn3⟩ : ∃ n3, n3 = w2.heap.size := ⟨_, rfl⟩
  rw [← hn3] at y3 y4 hge hx1lt ⊢
  have hne13 : w.heap.size ≠ n3 := by omega
  have hne14 : w.heap.size ≠ n3 + 1 := by omega
  have hne34 : n3 ≠ n3 + 1 := by omega
  have hge4 : w.heap.size ≤ n3 + 1 := by omega
  clear hn3 hx1lt
  go_loopw [5] (fun iv wr => ∃ m : Int, 1 ≤ m ∧ m ≤ 7 ∧ iv = .int .i64 m ∧ Below w.heap.size w wr ∧ FBox wr w.heap.size (.string ⟨l.toArray⟩) (.string ⟨l'.toArray⟩) ∧ Blk wr n3 (arr7 L m) ∧ Blk wr (n3 + 1) (arr7 N m)) (fun iv _ => (7 - intOf iv).toNat)
  case atStart => exact ⟨1, by decide, by decide, rfl, hb, x1, y3, y4⟩
  case round =>
    clear hb x1 y3 y4
    obtain ⟨m, h1, h7, rfl, hb, x1, y3, y4⟩ := hrel
    by_cases h6m : m ≤ 6
    · have e6 : decide (m ≤ 6) = true := decide_eq_true h6m
      have CM := Lib.hid (R1.out m h1 h6m)
      have CM2 := Lib.hid (R2.out m h1 h6m)
      have CGm := Lib.hid (CG.out m)
      have qx1_0 := x1.c0
      have qx1_1 := x1.c1
      go_wp2_with fail
      ((with_reducible refine (CM.out.of hG hb).mono ?_); rintro e w21 ⟨rfl, hb21⟩)
      clear qx1_0 qx1_1
      replace y3 := y3.below hb21
      replace y4 := y4.below hb21
      replace x1 := x1.below hb21
      replace hb := bto hb hb21
      clear hb21
      have qx1_0 := x1.c0
      have qx1_1 := x1.c1
      go_wp2_with fail
      ((with_reducible refine (CN.out.of hG hb).mono ?_); rintro e w22 ⟨rfl, hb22⟩)
      clear qx1_0 qx1_1
      replace y3 := y3.below hb22
      replace y4 := y4.below hb22
      replace x1 := x1.below hb22
      replace hb := bto hb hb22
      clear hb22
      go_wp2_with fail
      ((with_reducible refine (CM2.out.of hG hb).mono ?_); rintro e w23 ⟨rfl, hb23⟩)
      replace y3 := y3.below hb23
      replace y4 := y4.below hb23
      replace x1 := x1.below hb23
      replace hb := bto hb hb23
      clear hb23
      have hm : m = 1 ∨ m = 2 ∨ m = 3 ∨ m = 4 ∨ m = 5 ∨ m = 6 := by omega
      rcases hm with rfl | rfl | rfl | rfl | rfl | rfl
      · rw [arr7_1] at y3 y4
        go_wp2_with fail
        go_region_with (go_at_call 54; (with_reducible refine (CGm.out.of hG (bdr' hb)).mono ?_); rintro e w30 ⟨rfl, hb30⟩; have y3' := (y3.below (bdr _)).below hb30; have y4' := (y4.below (bdr _)).below hb30; have x1' := (x1.below (bdr _)).below hb30; have hbn := bto (bdr' hb) hb30; have q0 := y3'.c 1; have q1 := y3'.f 1; have q2 := y4'.c 1; have q3 := y4'.f 1)
        have y3n := (y3'.set 1 (.string ⟨(L 1).toArray⟩)).setNe hne34 1 (.string ⟨(N 1).toArray⟩)
        have y4n := (y4'.setNe (Ne.symm hne34) 1 (.string ⟨(L 1).toArray⟩)).set 1 (.string ⟨(N 1).toArray⟩)
        have x1n := (x1'.setCellNe hne13 1 (.string ⟨(L 1).toArray⟩)).setCellNe hne14 1 (.string ⟨(N 1).toArray⟩)
        have hbm := (hbn.setCell (p := ⟨n3, 1, none⟩) hge (.string ⟨(L 1).toArray⟩)).setCell (p := ⟨n3 + 1, 1, none⟩) hge4 (.string ⟨(N 1).toArray⟩)
        replace y3n := y3n.cast (show _ = arr7 L 2 by rw [arr7_2]; rfl)
        replace y4n := y4n.cast (show _ = arr7 N 2 by rw [arr7_2]; rfl)
        go_wp2
        go_roundw
        case rel => exact ⟨2, by decide, by decide, by first | rfl | go_num, hbm, x1n, y3n, y4n⟩
        case measure => first | (simp [intOf]; done) | (simp [intOf]; omega)
      · rw [arr7_2] at y3 y4
        go_wp2_with fail
        go_region_with (go_at_call 54; (with_reducible refine (CGm.out.of hG (bdr' hb)).mono ?_); rintro e w30 ⟨rfl, hb30⟩; have y3' := (y3.below (bdr _)).below hb30; have y4' := (y4.below (bdr _)).below hb30; have x1' := (x1.below (bdr _)).below hb30; have hbn := bto (bdr' hb) hb30; have q0 := y3'.c 2; have q1 := y3'.f 2; have q2 := y4'.c 2; have q3 := y4'.f 2)
        have y3n := (y3'.set 2 (.string ⟨(L 2).toArray⟩)).setNe hne34 2 (.string ⟨(N 2).toArray⟩)
        have y4n := (y4'.setNe (Ne.symm hne34) 2 (.string ⟨(L 2).toArray⟩)).set 2 (.string ⟨(N 2).toArray⟩)
        have x1n := (x1'.setCellNe hne13 2 (.string ⟨(L 2).toArray⟩)).setCellNe hne14 2 (.string ⟨(N 2).toArray⟩)
        have hbm := (hbn.setCell (p := ⟨n3, 2, none⟩) hge (.string ⟨(L 2).toArray⟩)).setCell (p := ⟨n3 + 1, 2, none⟩) hge4 (.string ⟨(N 2).toArray⟩)
        replace y3n := y3n.cast (show _ = arr7 L 3 by rw [arr7_3]; rfl)
        replace y4n := y4n.cast (show _ = arr7 N 3 by rw [arr7_3]; rfl)
        go_wp2
        go_roundw
        case rel => exact ⟨3, by decide, by decide, by first | rfl | go_num, hbm, x1n, y3n, y4n⟩
        case measure => first | (simp [intOf]; done) | (simp [intOf]; omega)
      · rw [arr7_3] at y3 y4
        go_wp2_with fail
        go_region_with (go_at_call 54; (with_reducible refine (CGm.out.of hG (bdr' hb)).mono ?_); rintro e w30 ⟨rfl, hb30⟩; have y3' := (y3.below (bdr _)).below hb30; have y4' := (y4.below (bdr _)).below hb30; have x1' := (x1.below (bdr _)).below hb30; have hbn := bto (bdr' hb) hb30; have q0 := y3'.c 3; have q1 := y3'.f 3; have q2 := y4'.c 3; have q3 := y4'.f 3)
        have y3n := (y3'.set 3 (.string ⟨(L 3).toArray⟩)).setNe hne34 3 (.string ⟨(N 3).toArray⟩)
        have y4n := (y4'.setNe (Ne.symm hne34) 3 (.string ⟨(L 3).toArray⟩)).set 3 (.string ⟨(N 3).toArray⟩)
        have x1n := (x1'.setCellNe hne13 3 (.string ⟨(L 3).toArray⟩)).setCellNe hne14 3 (.string ⟨(N 3).toArray⟩)
        have hbm := (hbn.setCell (p := ⟨n3, 3, none⟩) hge (.string ⟨(L 3).toArray⟩)).setCell (p := ⟨n3 + 1, 3, none⟩) hge4 (.string ⟨(N 3).toArray⟩)
        replace y3n := y3n.cast (show _ = arr7 L 4 by rw [arr7_4]; rfl)
        replace y4n := y4n.cast (show _ = arr7 N 4 by rw [arr7_4]; rfl)
        go_wp2
        go_roundw
        case rel => exact ⟨4, by decide, by decide, by first | rfl | go_num, hbm, x1n, y3n, y4n⟩
        case measure => first | (simp [intOf]; done) | (simp [intOf]; omega)
      · rw [arr7_4] at y3 y4
        go_wp2_with fail
        go_region_with (go_at_call 54; (with_reducible refine (CGm.out.of hG (bdr' hb)).mono ?_); rintro e w30 ⟨rfl, hb30⟩; have y3' := (y3.below (bdr _)).below hb30; have y4' := (y4.below (bdr _)).below hb30; have x1' := (x1.below (bdr _)).below hb30; have hbn := bto (bdr' hb) hb30; have q0 := y3'.c 4; have q1 := y3'.f 4; have q2 := y4'.c 4; have q3 := y4'.f 4)
        have y3n := (y3'.set 4 (.string ⟨(L 4).toArray⟩)).setNe hne34 4 (.string ⟨(N 4).toArray⟩)
        have y4n := (y4'.setNe (Ne.symm hne34) 4 (.string ⟨(L 4).toArray⟩)).set 4 (.string ⟨(N 4).toArray⟩)
        have x1n := (x1'.setCellNe hne13 4 (.string ⟨(L 4).toArray⟩)).setCellNe hne14 4 (.string ⟨(N 4).toArray⟩)
        have hbm := (hbn.setCell (p := ⟨n3, 4, none⟩) hge (.string ⟨(L 4).toArray⟩)).setCell (p := ⟨n3 + 1, 4, none⟩) hge4 (.string ⟨(N 4).toArray⟩)
        replace y3n := y3n.cast (show _ = arr7 L 5 by rw [arr7_5]; rfl)
        replace y4n := y4n.cast (show _ = arr7 N 5 by rw [arr7_5]; rfl)
        go_wp2
        go_roundw
        case rel => exact ⟨5, by decide, by decide, by first | rfl | go_num, hbm, x1n, y3n, y4n⟩
        case measure => first | (simp [intOf]; done) | (simp [intOf]; omega)
      · rw [arr7_5] at y3 y4
        go_wp2_with fail
        go_region_with (go_at_call 54; (with_reducible refine (CGm.out.of hG (bdr' hb)).mono ?_); rintro e w30 ⟨rfl, hb30⟩; have y3' := (y3.below (bdr _)).below hb30; have y4' := (y4.below (bdr _)).below hb30; have x1' := (x1.below (bdr _)).below hb30; have hbn := bto (bdr' hb) hb30; have q0 := y3'.c 5; have q1 := y3'.f 5; have q2 := y4'.c 5; have q3 := y4'.f 5)
        have y3n := (y3'.set 5 (.string ⟨(L 5).toArray⟩)).setNe hne34 5 (.string ⟨(N 5).toArray⟩)
        have y4n := (y4'.setNe (Ne.symm hne34) 5 (.string ⟨(L 5).toArray⟩)).set 5 (.string ⟨(N 5).toArray⟩)
        have x1n := (x1'.setCellNe hne13 5 (.string ⟨(L 5).toArray⟩)).setCellNe hne14 5 (.string ⟨(N 5).toArray⟩)
        have hbm := (hbn.setCell (p := ⟨n3, 5, none⟩) hge (.string ⟨(L 5).toArray⟩)).setCell (p := ⟨n3 + 1, 5, none⟩) hge4 (.string ⟨(N 5).toArray⟩)
        replace y3n := y3n.cast (show _ = arr7 L 6 by rw [arr7_6]; rfl)
        replace y4n := y4n.cast (show _ = arr7 N 6 by rw [arr7_6]; rfl)
        go_wp2
        go_roundw
        case rel => exact ⟨6, by decide, by decide, by first | rfl | go_num, hbm, x1n, y3n, y4n⟩
        case measure => first | (simp [intOf]; done) | (simp [intOf]; omega)
      · rw [arr7_6] at y3 y4
        go_wp2_with fail
        go_region_with (go_at_call 54; (with_reducible refine (CGm.out.of hG (bdr' hb)).mono ?_); rintro e w30 ⟨rfl, hb30⟩; have y3' := (y3.below (bdr _)).below hb30; have y4' := (y4.below (bdr _)).below hb30; have x1' := (x1.below (bdr _)).below hb30; have hbn := bto (bdr' hb) hb30; have q0 := y3'.c 6; have q1 := y3'.f 6; have q2 := y4'.c 6; have q3 := y4'.f 6)
        have y3n := (y3'.set 6 (.string ⟨(L 6).toArray⟩)).setNe hne34 6 (.string ⟨(N 6).toArray⟩)
        have y4n := (y4'.setNe (Ne.symm hne34) 6 (.string ⟨(L 6).toArray⟩)).set 6 (.string ⟨(N 6).toArray⟩)
        have x1n := (x1'.setCellNe hne13 6 (.string ⟨(L 6).toArray⟩)).setCellNe hne14 6 (.string ⟨(N 6).toArray⟩)
        have hbm := (hbn.setCell (p := ⟨n3, 6, none⟩) hge (.string ⟨(L 6).toArray⟩)).setCell (p := ⟨n3 + 1, 6, none⟩) hge4 (.string ⟨(N 6).toArray⟩)
        replace y3n := y3n.cast (show _ = arr7 L 7 by rw [arr7_7]; rfl)
        replace y4n := y4n.cast (show _ = arr7 N 7 by rw [arr7_7]; rfl)
        go_wp2
        go_roundw
        case rel => exact ⟨7, by decide, by decide, by first | rfl | go_num, hbm, x1n, y3n, y4n⟩
        case measure => first | (simp [intOf]; done) | (simp [intOf]; omega)
    · have e6 : decide (m ≤ 6) = false := decide_eq_false h6m
      obtain rfl : m = 7 := by omega
      rw [arr7_7] at y3 y4
      clear e6 h6m h1 h7
      have n5 := HM.out.n5
      have n6 := HM.out.n6
      rw [n5, n6, HM.out.same 1 (by decide) (by decide), HM.out.same 2 (by decide) (by decide), HM.out.same 3 (by decide) (by decide), HM.out.same 4 (by decide) (by decide)] at y4
      clear n5 n6
      go_wp2_with fail
      refine wp_region_kept (by kernel_rfl) (by kernel_rfl) ?_
      refine kept_val _ (fun _ => rfl) (fun ρ w hw => by go_simp; first | done | with_reducible rfl) ?_
      simp only [Act.put, List.setIfInBounds_toArray, List.set_cons_zero, List.set_cons_succ, Nat.reduceAdd]
      refine kept_val _ (fun _ => rfl) (fun ρ w hw => by have q0 := (y3.below hw).c 5; go_simp; first | done | with_reducible rfl) ?_
      simp only [Act.put, List.setIfInBounds_toArray, List.set_cons_zero, List.set_cons_succ, Nat.reduceAdd]
      refine kept_val _ (fun _ => rfl) (fun ρ w hw => by go_simp; first | done | with_reducible rfl) ?_
      simp only [Act.put, List.setIfInBounds_toArray, List.set_cons_zero, List.set_cons_succ, Nat.reduceAdd]
      refine kept_val _ (fun _ => rfl) (fun ρ w hw => by have q0 := (y3.below hw).c 6; go_simp; first | done | with_reducible rfl) ?_
      simp only [Act.put, List.setIfInBounds_toArray, List.set_cons_zero, List.set_cons_succ, Nat.reduceAdd]
      refine kept_val _ (fun _ => rfl) (fun ρ w hw => by go_simp; first | done | with_reducible rfl) ?_
      simp only [Act.put, List.setIfInBounds_toArray, List.set_cons_zero, List.set_cons_succ, Nat.reduceAdd]
      refine kept_val _ (fun _ => rfl) (fun ρ w hw => by go_simp; first | done | with_reducible rfl) ?_
      simp only [Act.put, List.setIfInBounds_toArray, List.set_cons_zero, List.set_cons_succ, Nat.reduceAdd]
      refine kept_end (fun ρ w41 hF => ?_)
      replace x1 := x1.below hF.below
      replace y3 := y3.below hF.below
      replace y4 := y4.below hF.below
      replace hb := bto hb hF.below
      clear hF
      rcases HDN.out with hdn | hdn
      · have h56 := HD1.out hdn
        have H56 := Lib.hid h56
        clear h56 hdn HD1 HD0 HDN
        have t1 : (L 5 == L 6) = true := by rw [H56.out, beq_iff_eq]
        have t2 : (L 5 != L 6) = false := by simp [bne, t1]
        have k5 : decide (0 < c5) = false := decide_eq_false (by omega)
        have k6 : decide (0 < c6) = false := decide_eq_false (by omega)
        go_wp2_with fail
        refine wp_region_kept (by kernel_rfl) (by kernel_rfl) ?_
        refine kept_val _ (fun _ => rfl) (fun ρ w hw => by go_simp; first | done | with_reducible rfl) ?_
        simp only [Act.put, List.setIfInBounds_toArray, List.set_cons_zero, List.set_cons_succ, Nat.reduceAdd]
        refine kept_call _ _ _ (fun _ => rfl) (fun ρ w hw => by go_simp; first | done | with_reducible rfl) (fun w hw => O5.out.of hG (bto hb hw)) ?_
        simp only [Act.put, List.setIfInBounds_toArray, List.set_cons_zero, List.set_cons_succ, Nat.reduceAdd]
        refine kept_val _ (fun _ => rfl) (fun ρ w hw => by have q0 := (x1.below hw).c0; have q1 := (x1.below hw).c1; go_simp; first | done | with_reducible rfl) ?_
        simp only [Act.put, List.setIfInBounds_toArray, List.set_cons_zero, List.set_cons_succ, Nat.reduceAdd]
        refine kept_call _ _ _ (fun _ => rfl) (fun ρ w hw => by go_simp; first | done | with_reducible rfl) (fun w hw => C5.out.of hG (bto hb hw)) ?_
        simp only [Act.put, List.setIfInBounds_toArray, List.set_cons_zero, List.set_cons_succ, Nat.reduceAdd]
        refine kept_val _ (fun _ => rfl) (fun ρ w hw => by go_simp; first | done | with_reducible rfl) ?_
        simp only [Act.put, List.setIfInBounds_toArray, List.set_cons_zero, List.set_cons_succ, Nat.reduceAdd]
        refine kept_val _ (fun _ => rfl) (fun ρ w hw => by go_simp; first | done | with_reducible rfl) ?_
        simp only [Act.put, List.setIfInBounds_toArray, List.set_cons_zero, List.set_cons_succ, Nat.reduceAdd]
        refine kept_val _ (fun _ => rfl) (fun ρ w hw => by have q0 := (x1.below hw).c0; have q1 := (x1.below hw).c1; go_simp; first | done | with_reducible rfl) ?_
        simp only [Act.put, List.setIfInBounds_toArray, List.set_cons_zero, List.set_cons_succ, Nat.reduceAdd]
        refine kept_val _ (fun _ => rfl) (fun ρ w hw => by go_simp; first | done | with_reducible rfl) ?_
        simp only [Act.put, List.setIfInBounds_toArray, List.set_cons_zero, List.set_cons_succ, Nat.reduceAdd]
        refine kept_call _ _ _ (fun _ => rfl) (fun ρ w hw => by go_simp; first | done | with_reducible rfl) (fun w hw => O6.out.of hG (bto hb hw)) ?_
        simp only [Act.put, List.setIfInBounds_toArray, List.set_cons_zero, List.set_cons_succ, Nat.reduceAdd]
        refine kept_call _ _ _ (fun _ => rfl) (fun ρ w hw => by go_simp; first | done | with_reducible rfl) (fun w hw => C6.out.of hG (bto hb hw)) ?_
        simp only [Act.put, List.setIfInBounds_toArray, List.set_cons_zero, List.set_cons_succ, Nat.reduceAdd]
        refine kept_val _ (fun _ => rfl) (fun ρ w hw => by go_simp; first | done | with_reducible rfl) ?_
        simp only [Act.put, List.setIfInBounds_toArray, List.set_cons_zero, List.set_cons_succ, Nat.reduceAdd]
        refine kept_val _ (fun _ => rfl) (fun ρ w hw => by go_simp; first | done | with_reducible rfl) ?_
        simp only [Act.put, List.setIfInBounds_toArray, List.set_cons_zero, List.set_cons_succ, Nat.reduceAdd]
        refine kept_val _ (fun _ => rfl) (fun ρ w hw => by go_simp; first | done | with_reducible rfl) ?_
        simp only [Act.put, List.setIfInBounds_toArray, List.set_cons_zero, List.set_cons_succ, Nat.reduceAdd]
        refine kept_val _ (fun _ => rfl) (fun ρ w hw => by go_simp; first | done | with_reducible rfl) ?_
        simp only [Act.put, List.setIfInBounds_toArray, List.set_cons_zero, List.set_cons_succ, Nat.reduceAdd]
        refine kept_val _ (fun _ => rfl) (fun ρ w hw => by go_simp; first | done | with_reducible rfl) ?_
        simp only [Act.put, List.setIfInBounds_toArray, List.set_cons_zero, List.set_cons_succ, Nat.reduceAdd]
        refine kept_val _ (fun _ => rfl) (fun ρ w hw => by go_simp; first | done | with_reducible rfl) ?_
        simp only [Act.put, List.setIfInBounds_toArray, List.set_cons_zero, List.set_cons_succ, Nat.reduceAdd]
        refine kept_val _ (fun _ => rfl) (fun ρ w hw => by go_simp; first | done | with_reducible rfl) ?_
        simp only [Act.put, List.setIfInBounds_toArray, List.set_cons_zero, List.set_cons_succ, Nat.reduceAdd]
        refine kept_off (fun _ => rfl) ?_
        simp only [Act.put, List.setIfInBounds_toArray, List.set_cons_zero, List.set_cons_succ, Nat.reduceAdd]
        refine kept_off (fun _ => rfl) ?_
        simp only [Act.put, List.setIfInBounds_toArray, List.set_cons_zero, List.set_cons_succ, Nat.reduceAdd]
        refine kept_off (fun _ => rfl) ?_
        simp only [Act.put, List.setIfInBounds_toArray, List.set_cons_zero, List.set_cons_succ, Nat.reduceAdd]
        refine kept_off (fun _ => rfl) ?_
        simp only [Act.put, List.setIfInBounds_toArray, List.set_cons_zero, List.set_cons_succ, Nat.reduceAdd]
        refine kept_val _ (fun _ => rfl) (fun ρ w hw => by go_simp; first | done | with_reducible rfl) ?_
        simp only [Act.put, List.setIfInBounds_toArray, List.set_cons_zero, List.set_cons_succ, Nat.reduceAdd]
        refine kept_val _ (fun _ => rfl) (fun ρ w hw => by go_simp; first | done | with_reducible rfl) ?_
        simp only [Act.put, List.setIfInBounds_toArray, List.set_cons_zero, List.set_cons_succ, Nat.reduceAdd]
        refine kept_val _ (fun _ => rfl) (fun ρ w hw => by go_simp; first | done | with_reducible rfl) ?_
        simp only [Act.put, List.setIfInBounds_toArray, List.set_cons_zero, List.set_cons_succ, Nat.reduceAdd]
        refine kept_val _ (fun _ => rfl) (fun ρ w hw => by go_simp; first | done | with_reducible rfl) ?_
        simp only [Act.put, List.setIfInBounds_toArray, List.set_cons_zero, List.set_cons_succ, Nat.reduceAdd]
        refine kept_val _ (fun _ => rfl) (fun ρ w hw => by go_simp; first | done | with_reducible rfl) ?_
        simp only [Act.put, List.setIfInBounds_toArray, List.set_cons_zero, List.set_cons_succ, Nat.reduceAdd]
        refine kept_val _ (fun _ => rfl) (fun ρ w hw => by have q0 := (y4.below hw).c 6; go_simp; first | done | with_reducible rfl) ?_
        simp only [Act.put, List.setIfInBounds_toArray, List.set_cons_zero, List.set_cons_succ, Nat.reduceAdd]
        refine kept_val _ (fun _ => rfl) (fun ρ w hw => by go_simp; first | done | with_reducible rfl) ?_
        simp only [Act.put, List.setIfInBounds_toArray, List.set_cons_zero, List.set_cons_succ, Nat.reduceAdd]
        refine kept_val _ (fun _ => rfl) (fun ρ w hw => by go_simp; first | done | with_reducible rfl) ?_
        simp only [Act.put, List.setIfInBounds_toArray, List.set_cons_zero, List.set_cons_succ, Nat.reduceAdd]
        refine kept_val _ (fun _ => rfl) (fun ρ w hw => by go_simp; first | done | with_reducible rfl) ?_
        simp only [Act.put, List.setIfInBounds_toArray, List.set_cons_zero, List.set_cons_succ, Nat.reduceAdd]
        refine kept_val _ (fun _ => rfl) (fun ρ w hw => by go_simp; first | done | with_reducible rfl) ?_
        simp only [Act.put, List.setIfInBounds_toArray, List.set_cons_zero, List.set_cons_succ, Nat.reduceAdd]
        refine kept_val _ (fun _ => rfl) (fun ρ w hw => by go_simp; first | done | with_reducible rfl) ?_
        simp only [Act.put, List.setIfInBounds_toArray, List.set_cons_zero, List.set_cons_succ, Nat.reduceAdd]
        refine kept_val _ (fun _ => rfl) (fun ρ w hw => by have q0 := (y4.below hw).c 5; go_simp; first | done | with_reducible rfl) ?_
        simp only [Act.put, List.setIfInBounds_toArray, List.set_cons_zero, List.set_cons_succ, Nat.reduceAdd]
        refine kept_val _ (fun _ => rfl) (fun ρ w hw => by go_simp; first | done | with_reducible rfl) ?_
        simp only [Act.put, List.setIfInBounds_toArray, List.set_cons_zero, List.set_cons_succ, Nat.reduceAdd]
        refine kept_val _ (fun _ => rfl) (fun ρ w hw => by go_simp; first | done | with_reducible rfl) ?_
        simp only [Act.put, List.setIfInBounds_toArray, List.set_cons_zero, List.set_cons_succ, Nat.reduceAdd]
        refine kept_end (fun ρ w42 hF => ?_)
        replace x1 := x1.below hF.below
        replace y3 := y3.below hF.below
        replace y4 := y4.below hF.below
        replace hb := bto hb hF.below
        clear hF
        go_wp2_with fail
        clear t1 t2 k5 k6 h5 h6
        go_loopw [12] (fun iv wr => ∃ m : Int, 1 ≤ m ∧ m ≤ 5 ∧ iv = .int .i64 m ∧ Below w.heap.size w wr ∧ FBox wr w.heap.size (.string ⟨l.toArray⟩) (.string ⟨l'.toArray⟩) ∧ Blk wr n3 #[.string ⟨#[]⟩, .string ⟨(L 1).toArray⟩, .string ⟨(L 2).toArray⟩, .string ⟨(L 3).toArray⟩, .string ⟨(L 4).toArray⟩, .string ⟨(L 5).toArray⟩, .string ⟨(L 6).toArray⟩] ∧ Blk wr (n3 + 1) #[.string ⟨#[]⟩, .string ⟨(L 1).toArray⟩, .string ⟨(L 2).toArray⟩, .string ⟨(L 3).toArray⟩, .string ⟨(L 4).toArray⟩, .string ⟨(L 6).toArray⟩, .string ⟨(L 5).toArray⟩]) (fun iv _ => (5 - intOf iv).toNat)
        case atStart => exact ⟨1, by decide, by decide, rfl, hb, x1, y3, y4⟩
        case round =>
          clear hb x1 y3 y4
          obtain ⟨m, h1, h5, rfl, hb, x1, y3, y4⟩ := hrel
          by_cases h4 : m ≤ 4
          · have e4 : decide (m ≤ 4) = true := decide_eq_true h4
            have hone := HM.out.one m
            have hm : m = 1 ∨ m = 2 ∨ m = 3 ∨ m = 4 := by omega
            rcases hm with rfl | rfl | rfl | rfl
            · cases t1 : (L 1 == L 5)
              · have t2 : (L 1 != L 5) = true := by simp [bne, t1]
                have h6' : L 1 = L 6 := hone.resolve_left (fun h => by rw [h] at t1; simp at t1)
                have t3 : (L 1 == L 6) = true := by rw [beq_iff_eq]; exact h6'
                have t4 : (L 1 != L 6) = false := by simp [bne, t3]
                clear h6'
                go_wp2_with fail
                refine wp_region_kept (by kernel_rfl) (by kernel_rfl) ?_
                refine kept_val _ (fun _ => rfl) (fun ρ w hw => by go_simp; first | done | with_reducible rfl) ?_
                simp only [Act.put, List.setIfInBounds_toArray, List.set_cons_zero, List.set_cons_succ, Nat.reduceAdd]
                refine kept_val _ (fun _ => rfl) (fun ρ w hw => by go_simp; first | done | with_reducible rfl) ?_
                simp only [Act.put, List.setIfInBounds_toArray, List.set_cons_zero, List.set_cons_succ, Nat.reduceAdd]
                refine kept_val _ (fun _ => rfl) (fun ρ w hw => by have q0 := (y3.below hw).c 1; go_simp; first | done | with_reducible rfl) ?_
                simp only [Act.put, List.setIfInBounds_toArray, List.set_cons_zero, List.set_cons_succ, Nat.reduceAdd]
                refine kept_val _ (fun _ => rfl) (fun ρ w hw => by go_simp; first | done | with_reducible rfl) ?_
                simp only [Act.put, List.setIfInBounds_toArray, List.set_cons_zero, List.set_cons_succ, Nat.reduceAdd]
                refine kept_val _ (fun _ => rfl) (fun ρ w hw => by go_simp; first | done | with_reducible rfl) ?_
                simp only [Act.put, List.setIfInBounds_toArray, List.set_cons_zero, List.set_cons_succ, Nat.reduceAdd]
                refine kept_val _ (fun _ => rfl) (fun ρ w hw => by go_simp; first | done | with_reducible rfl) ?_
                simp only [Act.put, List.setIfInBounds_toArray, List.set_cons_zero, List.set_cons_succ, Nat.reduceAdd]
                refine kept_val _ (fun _ => rfl) (fun ρ w hw => by go_simp; first | done | with_reducible rfl) ?_
                simp only [Act.put, List.setIfInBounds_toArray, List.set_cons_zero, List.set_cons_succ, Nat.reduceAdd]
                refine kept_val _ (fun _ => rfl) (fun ρ w hw => by go_simp; first | done | with_reducible rfl) ?_
                simp only [Act.put, List.setIfInBounds_toArray, List.set_cons_zero, List.set_cons_succ, Nat.reduceAdd]
                refine kept_val _ (fun _ => rfl) (fun ρ w hw => by have q0 := (y3.below hw).c 1; go_simp; first | done | with_reducible rfl) ?_
                simp only [Act.put, List.setIfInBounds_toArray, List.set_cons_zero, List.set_cons_succ, Nat.reduceAdd]
                refine kept_val _ (fun _ => rfl) (fun ρ w hw => by go_simp; first | done | with_reducible rfl) ?_
                simp only [Act.put, List.setIfInBounds_toArray, List.set_cons_zero, List.set_cons_succ, Nat.reduceAdd]
                refine kept_val _ (fun _ => rfl) (fun ρ w hw => by go_simp; first | done | with_reducible rfl) ?_
                simp only [Act.put, List.setIfInBounds_toArray, List.set_cons_zero, List.set_cons_succ, Nat.reduceAdd]
                refine kept_val _ (fun _ => rfl) (fun ρ w hw => by go_simp; first | done | with_reducible rfl) ?_
                simp only [Act.put, List.setIfInBounds_toArray, List.set_cons_zero, List.set_cons_succ, Nat.reduceAdd]
                refine kept_val _ (fun _ => rfl) (fun ρ w hw => by go_simp; first | done | with_reducible rfl) ?_
                simp only [Act.put, List.setIfInBounds_toArray, List.set_cons_zero, List.set_cons_succ, Nat.reduceAdd]
                refine kept_val _ (fun _ => rfl) (fun ρ w hw => by go_simp; first | done | with_reducible rfl) ?_
                simp only [Act.put, List.setIfInBounds_toArray, List.set_cons_zero, List.set_cons_succ, Nat.reduceAdd]
                refine kept_val _ (fun _ => rfl) (fun ρ w hw => by go_simp; first | done | with_reducible rfl) ?_
                simp only [Act.put, List.setIfInBounds_toArray, List.set_cons_zero, List.set_cons_succ, Nat.reduceAdd]
                refine kept_val _ (fun _ => rfl) (fun ρ w hw => by have q0 := (y3.below hw).c 1; go_simp; first | done | with_reducible rfl) ?_
                simp only [Act.put, List.setIfInBounds_toArray, List.set_cons_zero, List.set_cons_succ, Nat.reduceAdd]
                refine kept_val _ (fun _ => rfl) (fun ρ w hw => by go_simp; first | done | with_reducible rfl) ?_
                simp only [Act.put, List.setIfInBounds_toArray, List.set_cons_zero, List.set_cons_succ, Nat.reduceAdd]
                refine kept_val _ (fun _ => rfl) (fun ρ w hw => by go_simp; first | done | with_reducible rfl) ?_
                simp only [Act.put, List.setIfInBounds_toArray, List.set_cons_zero, List.set_cons_succ, Nat.reduceAdd]
                refine kept_val _ (fun _ => rfl) (fun ρ w hw => by have q0 := (y4.below hw).c 1; go_simp; first | done | with_reducible rfl) ?_
                simp only [Act.put, List.setIfInBounds_toArray, List.set_cons_zero, List.set_cons_succ, Nat.reduceAdd]
                refine kept_val _ (fun _ => rfl) (fun ρ w hw => by go_simp; first | done | with_reducible rfl) ?_
                simp only [Act.put, List.setIfInBounds_toArray, List.set_cons_zero, List.set_cons_succ, Nat.reduceAdd]
                refine kept_val _ (fun _ => rfl) (fun ρ w hw => by go_simp; first | done | with_reducible rfl) ?_
                simp only [Act.put, List.setIfInBounds_toArray, List.set_cons_zero, List.set_cons_succ, Nat.reduceAdd]
                refine kept_end (fun ρ w43 hF => ?_)
                replace x1 := x1.below hF.below
                replace y3 := y3.below hF.below
                replace y4 := y4.below hF.below
                replace hb := bto hb hF.below
                clear hF
                clear t1 t2 t3 t4
                go_wp2
                go_roundw
                case rel => exact ⟨2, by decide, by decide, by first | rfl | go_num, hb, x1, y3, y4⟩
                case measure => first | (simp [intOf]; done) | (simp [intOf]; omega)
              · have t2 : (L 1 != L 5) = false := by simp [bne, t1]
                go_wp2_with fail
                refine wp_region_kept (by kernel_rfl) (by kernel_rfl) ?_
                refine kept_val _ (fun _ => rfl) (fun ρ w hw => by go_simp; first | done | with_reducible rfl) ?_
                simp only [Act.put, List.setIfInBounds_toArray, List.set_cons_zero, List.set_cons_succ, Nat.reduceAdd]
                refine kept_val _ (fun _ => rfl) (fun ρ w hw => by go_simp; first | done | with_reducible rfl) ?_
                simp only [Act.put, List.setIfInBounds_toArray, List.set_cons_zero, List.set_cons_succ, Nat.reduceAdd]
                refine kept_val _ (fun _ => rfl) (fun ρ w hw => by have q0 := (y3.below hw).c 1; go_simp; first | done | with_reducible rfl) ?_
                simp only [Act.put, List.setIfInBounds_toArray, List.set_cons_zero, List.set_cons_succ, Nat.reduceAdd]
                refine kept_val _ (fun _ => rfl) (fun ρ w hw => by go_simp; first | done | with_reducible rfl) ?_
                simp only [Act.put, List.setIfInBounds_toArray, List.set_cons_zero, List.set_cons_succ, Nat.reduceAdd]
                refine kept_val _ (fun _ => rfl) (fun ρ w hw => by go_simp; first | done | with_reducible rfl) ?_
                simp only [Act.put, List.setIfInBounds_toArray, List.set_cons_zero, List.set_cons_succ, Nat.reduceAdd]
                refine kept_val _ (fun _ => rfl) (fun ρ w hw => by go_simp; first | done | with_reducible rfl) ?_
                simp only [Act.put, List.setIfInBounds_toArray, List.set_cons_zero, List.set_cons_succ, Nat.reduceAdd]
                refine kept_off (fun _ => rfl) ?_
                simp only [Act.put, List.setIfInBounds_toArray, List.set_cons_zero, List.set_cons_succ, Nat.reduceAdd]
                refine kept_off (fun _ => rfl) ?_
                simp only [Act.put, List.setIfInBounds_toArray, List.set_cons_zero, List.set_cons_succ, Nat.reduceAdd]
                refine kept_off (fun _ => rfl) ?_
                simp only [Act.put, List.setIfInBounds_toArray, List.set_cons_zero, List.set_cons_succ, Nat.reduceAdd]
                refine kept_off (fun _ => rfl) ?_
                simp only [Act.put, List.setIfInBounds_toArray, List.set_cons_zero, List.set_cons_succ, Nat.reduceAdd]
                refine kept_off (fun _ => rfl) ?_
                simp only [Act.put, List.setIfInBounds_toArray, List.set_cons_zero, List.set_cons_succ, Nat.reduceAdd]
                refine kept_val _ (fun _ => rfl) (fun ρ w hw => by go_simp; first | done | with_reducible rfl) ?_
                simp only [Act.put, List.setIfInBounds_toArray, List.set_cons_zero, List.set_cons_succ, Nat.reduceAdd]
                refine kept_val _ (fun _ => rfl) (fun ρ w hw => by go_simp; first | done | with_reducible rfl) ?_
                simp only [Act.put, List.setIfInBounds_toArray, List.set_cons_zero, List.set_cons_succ, Nat.reduceAdd]
                refine kept_val _ (fun _ => rfl) (fun ρ w hw => by go_simp; first | done | with_reducible rfl) ?_
                simp only [Act.put, List.setIfInBounds_toArray, List.set_cons_zero, List.set_cons_succ, Nat.reduceAdd]
                refine kept_val _ (fun _ => rfl) (fun ρ w hw => by go_simp; first | done | with_reducible rfl) ?_
                simp only [Act.put, List.setIfInBounds_toArray, List.set_cons_zero, List.set_cons_succ, Nat.reduceAdd]
                refine kept_val _ (fun _ => rfl) (fun ρ w hw => by have q0 := (y3.below hw).c 1; go_simp; first | done | with_reducible rfl) ?_
                simp only [Act.put, List.setIfInBounds_toArray, List.set_cons_zero, List.set_cons_succ, Nat.reduceAdd]
                refine kept_val _ (fun _ => rfl) (fun ρ w hw => by go_simp; first | done | with_reducible rfl) ?_
                simp only [Act.put, List.setIfInBounds_toArray, List.set_cons_zero, List.set_cons_succ, Nat.reduceAdd]
                refine kept_val _ (fun _ => rfl) (fun ρ w hw => by go_simp; first | done | with_reducible rfl) ?_
                simp only [Act.put, List.setIfInBounds_toArray, List.set_cons_zero, List.set_cons_succ, Nat.reduceAdd]
                refine kept_val _ (fun _ => rfl) (fun ρ w hw => by have q0 := (y4.below hw).c 1; go_simp; first | done | with_reducible rfl) ?_
                simp only [Act.put, List.setIfInBounds_toArray, List.set_cons_zero, List.set_cons_succ, Nat.reduceAdd]
                refine kept_val _ (fun _ => rfl) (fun ρ w hw => by go_simp; first | done | with_reducible rfl) ?_
                simp only [Act.put, List.setIfInBounds_toArray, List.set_cons_zero, List.set_cons_succ, Nat.reduceAdd]
                refine kept_val _ (fun _ => rfl) (fun ρ w hw => by go_simp; first | done | with_reducible rfl) ?_
                simp only [Act.put, List.setIfInBounds_toArray, List.set_cons_zero, List.set_cons_succ, Nat.reduceAdd]
                refine kept_end (fun ρ w43 hF => ?_)
                replace x1 := x1.below hF.below
                replace y3 := y3.below hF.below
                replace y4 := y4.below hF.below
                replace hb := bto hb hF.below
                clear hF
                clear t1 t2
                go_wp2
                go_roundw
                case rel => exact ⟨2, by decide, by decide, by first | rfl | go_num, hb, x1, y3, y4⟩
                case measure => first | (simp [intOf]; done) | (simp [intOf]; omega)
            · cases t1 : (L 2 == L 5)
              · have t2 : (L 2 != L 5) = true := by simp [bne, t1]
                have h6' : L 2 = L 6 := hone.resolve_left (fun h => by rw [h] at t1; simp at t1)
                have t3 : (L 2 == L 6) = true := by rw [beq_iff_eq]; exact h6'
                have t4 : (L 2 != L 6) = false := by simp [bne, t3]
                clear h6'
                go_wp2_with fail
                refine wp_region_kept (by kernel_rfl) (by kernel_rfl) ?_
                refine kept_val _ (fun _ => rfl) (fun ρ w hw => by go_simp; first | done | with_reducible rfl) ?_
                simp only [Act.put, List.setIfInBounds_toArray, List.set_cons_zero, List.set_cons_succ, Nat.reduceAdd]
                refine kept_val _ (fun _ => rfl) (fun ρ w hw => by go_simp; first | done | with_reducible rfl) ?_
                simp only [Act.put, List.setIfInBounds_toArray, List.set_cons_zero, List.set_cons_succ, Nat.reduceAdd]
                refine kept_val _ (fun _ => rfl) (fun ρ w hw => by have q0 := (y3.below hw).c 2; go_simp; first | done | with_reducible rfl) ?_
                simp only [Act.put, List.setIfInBounds_toArray, List.set_cons_zero, List.set_cons_succ, Nat.reduceAdd]
                refine kept_val _ (fun _ => rfl) (fun ρ w hw => by go_simp; first | done | with_reducible rfl) ?_
                simp only [Act.put, List.setIfInBounds_toArray, List.set_cons_zero, List.set_cons_succ, Nat.reduceAdd]
                refine kept_val _ (fun _ => rfl) (fun ρ w hw => by go_simp; first | done | with_reducible rfl) ?_
                simp only [Act.put, List.setIfInBounds_toArray, List.set_cons_zero, List.set_cons_succ, Nat.reduceAdd]
                refine kept_val _ (fun _ => rfl) (fun ρ w hw => by go_simp; first | done | with_reducible rfl) ?_
                simp only [Act.put, List.setIfInBounds_toArray, List.set_cons_zero, List.set_cons_succ, Nat.reduceAdd]
                refine kept_val _ (fun _ => rfl) (fun ρ w hw => by go_simp; first | done | with_reducible rfl) ?_
                simp only [Act.put, List.setIfInBounds_toArray, List.set_cons_zero, List.set_cons_succ, Nat.reduceAdd]
                refine kept_val _ (fun _ => rfl) (fun ρ w hw => by go_simp; first | done | with_reducible rfl) ?_
                simp only [Act.put, List.setIfInBounds_toArray, List.set_cons_zero, List.set_cons_succ, Nat.reduceAdd]
                refine kept_val _ (fun _ => rfl) (fun ρ w hw => by have q0 := (y3.below hw).c 2; go_simp; first | done | with_reducible rfl) ?_
                simp only [Act.put, List.setIfInBounds_toArray, List.set_cons_zero, List.set_cons_succ, Nat.reduceAdd]
                refine kept_val _ (fun _ => rfl) (fun ρ w hw => by go_simp; first | done | with_reducible rfl) ?_
                simp only [Act.put, List.setIfInBounds_toArray, List.set_cons_zero, List.set_cons_succ, Nat.reduceAdd]
                refine kept_val _ (fun _ => rfl) (fun ρ w hw => by go_simp; first | done | with_reducible rfl) ?_
                simp only [Act.put, List.setIfInBounds_toArray, List.set_cons_zero, List.set_cons_succ, Nat.reduceAdd]
                refine kept_val _ (fun _ => rfl) (fun ρ w hw => by go_simp; first | done | with_reducible rfl) ?_
                simp only [Act.put, List.setIfInBounds_toArray, List.set_cons_zero, List.set_cons_succ, Nat.reduceAdd]
                refine kept_val _ (fun _ => rfl) (fun ρ w hw => by go_simp; first | done | with_reducible rfl) ?_
                simp only [Act.put, List.setIfInBounds_toArray, List.set_cons_zero, List.set_cons_succ, Nat.reduceAdd]
                refine kept_val _ (fun _ => rfl) (fun ρ w hw => by go_simp; first | done | with_reducible rfl) ?_
                simp only [Act.put, List.setIfInBounds_toArray, List.set_cons_zero, List.set_cons_succ, Nat.reduceAdd]
                refine kept_val _ (fun _ => rfl) (fun ρ w hw => by go_simp; first | done | with_reducible rfl) ?_
                simp only [Act.put, List.setIfInBounds_toArray, List.set_cons_zero, List.set_cons_succ, Nat.reduceAdd]
                refine kept_val _ (fun _ => rfl) (fun ρ w hw => by have q0 := (y3.below hw).c 2; go_simp; first | done | with_reducible rfl) ?_
                simp only [Act.put, List.setIfInBounds_toArray, List.set_cons_zero, List.set_cons_succ, Nat.reduceAdd]
                refine kept_val _ (fun _ => rfl) (fun ρ w hw => by go_simp; first | done | with_reducible rfl) ?_
                simp only [Act.put, List.setIfInBounds_toArray, List.set_cons_zero, List.set_cons_succ, Nat.reduceAdd]
                refine kept_val _ (fun _ => rfl) (fun ρ w hw => by go_simp; first | done | with_reducible rfl) ?_
                simp only [Act.put, List.setIfInBounds_toArray, List.set_cons_zero, List.set_cons_succ, Nat.reduceAdd]
                refine kept_val _ (fun _ => rfl) (fun ρ w hw => by have q0 := (y4.below hw).c 2; go_simp; first | done | with_reducible rfl) ?_
                simp only [Act.put, List.setIfInBounds_toArray, List.set_cons_zero, List.set_cons_succ, Nat.reduceAdd]
                refine kept_val _ (fun _ => rfl) (fun ρ w hw => by go_simp; first | done | with_reducible rfl) ?_
                simp only [Act.put, List.setIfInBounds_toArray, List.set_cons_zero, List.set_cons_succ, Nat.reduceAdd]
                refine kept_val _ (fun _ => rfl) (fun ρ w hw => by go_simp; first | done | with_reducible rfl) ?_
                simp only [Act.put, List.setIfInBounds_toArray, List.set_cons_zero, List.set_cons_succ, Nat.reduceAdd]
                refine kept_end (fun ρ w43 hF => ?_)
                replace x1 := x1.below hF.below
                replace y3 := y3.below hF.below
                replace y4 := y4.below hF.below
                replace hb := bto hb hF.below
                clear hF
                clear t1 t2 t3 t4
                go_wp2
                go_roundw
                case rel => exact ⟨3, by decide, by decide, by first | rfl | go_num, hb, x1, y3, y4⟩
                case measure => first | (simp [intOf]; done) | (simp [intOf]; omega)
              · have t2 : (L 2 != L 5) = false := by simp [bne, t1]
                go_wp2_with fail
                refine wp_region_kept (by kernel_rfl) (by kernel_rfl) ?_
                refine kept_val _ (fun _ => rfl) (fun ρ w hw => by go_simp; first | done | with_reducible rfl) ?_
                simp only [Act.put, List.setIfInBounds_toArray, List.set_cons_zero, List.set_cons_succ, Nat.reduceAdd]
                refine kept_val _ (fun _ => rfl) (fun ρ w hw => by go_simp; first | done | with_reducible rfl) ?_
                simp only [Act.put, List.setIfInBounds_toArray, List.set_cons_zero, List.set_cons_succ, Nat.reduceAdd]
                refine kept_val _ (fun _ => rfl) (fun ρ w hw => by have q0 := (y3.below hw).c 2; go_simp; first | done | with_reducible rfl) ?_
                simp only [Act.put, List.setIfInBounds_toArray, List.set_cons_zero, List.set_cons_succ, Nat.reduceAdd]
                refine kept_val _ (fun _ => rfl) (fun ρ w hw => by go_simp; first | done | with_reducible rfl) ?_
                simp only [Act.put, List.setIfInBounds_toArray, List.set_cons_zero, List.set_cons_succ, Nat.reduceAdd]
                refine kept_val _ (fun _ => rfl) (fun ρ w hw => by go_simp; first | done | with_reducible rfl) ?_
                simp only [Act.put, List.setIfInBounds_toArray, List.set_cons_zero, List.set_cons_succ, Nat.reduceAdd]
                refine kept_val _ (fun _ => rfl) (fun ρ w hw => by go_simp; first | done | with_reducible rfl) ?_
                simp only [Act.put, List.setIfInBounds_toArray, List.set_cons_zero, List.set_cons_succ, Nat.reduceAdd]
                refine kept_off (fun _ => rfl) ?_
                simp only [Act.put, List.setIfInBounds_toArray, List.set_cons_zero, List.set_cons_succ, Nat.reduceAdd]
                refine kept_off (fun _ => rfl) ?_
                simp only [Act.put, List.setIfInBounds_toArray, List.set_cons_zero, List.set_cons_succ, Nat.reduceAdd]
                refine kept_off (fun _ => rfl) ?_
                simp only [Act.put, List.setIfInBounds_toArray, List.set_cons_zero, List.set_cons_succ, Nat.reduceAdd]
                refine kept_off (fun _ => rfl) ?_
                simp only [Act.put, List.setIfInBounds_toArray, List.set_cons_zero, List.set_cons_succ, Nat.reduceAdd]
                refine kept_off (fun _ => rfl) ?_
                simp only [Act.put, List.setIfInBounds_toArray, List.set_cons_zero, List.set_cons_succ, Nat.reduceAdd]
                refine kept_val _ (fun _ => rfl) (fun ρ w hw => by go_simp; first | done | with_reducible rfl) ?_
                simp only [Act.put, List.setIfInBounds_toArray, List.set_cons_zero, List.set_cons_succ, Nat.reduceAdd]
                refine kept_val _ (fun _ => rfl) (fun ρ w hw => by go_simp; first | done | with_reducible rfl) ?_
                simp only [Act.put, List.setIfInBounds_toArray, List.set_cons_zero, List.set_cons_succ, Nat.reduceAdd]
                refine kept_val _ (fun _ => rfl) (fun ρ w hw => by go_simp; first | done | with_reducible rfl) ?_
                simp only [Act.put, List.setIfInBounds_toArray, List.set_cons_zero, List.set_cons_succ, Nat.reduceAdd]
                refine kept_val _ (fun _ => rfl) (fun ρ w hw => by go_simp; first | done | with_reducible rfl) ?_
                simp only [Act.put, List.setIfInBounds_toArray, List.set_cons_zero, List.set_cons_succ, Nat.reduceAdd]
                refine kept_val _ (fun _ => rfl) (fun ρ w hw => by have q0 := (y3.below hw).c 2; go_simp; first | done | with_reducible rfl) ?_
                simp only [Act.put, List.setIfInBounds_toArray, List.set_cons_zero, List.set_cons_succ, Nat.reduceAdd]
                refine kept_val _ (fun _ => rfl) (fun ρ w hw => by go_simp; first | done | with_reducible rfl) ?_
                simp only [Act.put, List.setIfInBounds_toArray, List.set_cons_zero, List.set_cons_succ, Nat.reduceAdd]
                refine kept_val _ (fun _ => rfl) (fun ρ w hw => by go_simp; first | done | with_reducible rfl) ?_
                simp only [Act.put, List.setIfInBounds_toArray, List.set_cons_zero, List.set_cons_succ, Nat.reduceAdd]
                refine kept_val _ (fun _ => rfl) (fun ρ w hw => by have q0 := (y4.below hw).c 2; go_simp; first | done | with_reducible rfl) ?_
                simp only [Act.put, List.setIfInBounds_toArray, List.set_cons_zero, List.set_cons_succ, Nat.reduceAdd]
                refine kept_val _ (fun _ => rfl) (fun ρ w hw => by go_simp; first | done | with_reducible rfl) ?_
                simp only [Act.put, List.setIfInBounds_toArray, List.set_cons_zero, List.set_cons_succ, Nat.reduceAdd]
                refine kept_val _ (fun _ => rfl) (fun ρ w hw => by go_simp; first | done | with_reducible rfl) ?_
                simp only [Act.put, List.setIfInBounds_toArray, List.set_cons_zero, List.set_cons_succ, Nat.reduceAdd]
                refine kept_end (fun ρ w43 hF => ?_)
                replace x1 := x1.below hF.below
                replace y3 := y3.below hF.below
                replace y4 := y4.below hF.below
                replace hb := bto hb hF.below
                clear hF
                clear t1 t2
                go_wp2
                go_roundw
                case rel => exact ⟨3, by decide, by decide, by first | rfl | go_num, hb, x1, y3, y4⟩
                case measure => first | (simp [intOf]; done) | (simp [intOf]; omega)
            · cases t1 : (L 3 == L 5)
              · have t2 : (L 3 != L 5) = true := by simp [bne, t1]
                have h6' : L 3 = L 6 := hone.resolve_left (fun h => by rw [h] at t1; simp at t1)
                have t3 : (L 3 == L 6) = true := by rw [beq_iff_eq]; exact h6'
                have t4 : (L 3 != L 6) = false := by simp [bne, t3]
                clear h6'
                go_wp2_with fail
                refine wp_region_kept (by kernel_rfl) (by kernel_rfl) ?_
                refine kept_val _ (fun _ => rfl) (fun ρ w hw => by go_simp; first | done | with_reducible rfl) ?_
                simp only [Act.put, List.setIfInBounds_toArray, List.set_cons_zero, List.set_cons_succ, Nat.reduceAdd]
                refine kept_val _ (fun _ => rfl) (fun ρ w hw => by go_simp; first | done | with_reducible rfl) ?_
                simp only [Act.put, List.setIfInBounds_toArray, List.set_cons_zero, List.set_cons_succ, Nat.reduceAdd]
                refine kept_val _ (fun _ => rfl) (fun ρ w hw => by have q0 := (y3.below hw).c 3; go_simp; first | done | with_reducible rfl) ?_
                simp only [Act.put, List.setIfInBounds_toArray, List.set_cons_zero, List.set_cons_succ, Nat.reduceAdd]
                refine kept_val _ (fun _ => rfl) (fun ρ w hw => by go_simp; first | done | with_reducible rfl) ?_
                simp only [Act.put, List.setIfInBounds_toArray, List.set_cons_zero, List.set_cons_succ, Nat.reduceAdd]
                refine kept_val _ (fun _ => rfl) (fun ρ w hw => by go_simp; first | done | with_reducible rfl) ?_
                simp only [Act.put, List.setIfInBounds_toArray, List.set_cons_zero, List.set_cons_succ, Nat.reduceAdd]
                refine kept_val _ (fun _ => rfl) (fun ρ w hw => by go_simp; first | done | with_reducible rfl) ?_
                simp only [Act.put, List.setIfInBounds_toArray, List.set_cons_zero, List.set_cons_succ, Nat.reduceAdd]
                refine kept_val _ (fun _ => rfl) (fun ρ w hw => by go_simp; first | done | with_reducible rfl) ?_
                simp only [Act.put, List.setIfInBounds_toArray, List.set_cons_zero, List.set_cons_succ, Nat.reduceAdd]
                refine kept_val _ (fun _ => rfl) (fun ρ w hw => by go_simp; first | done | with_reducible rfl) ?_
                simp only [Act.put, List.setIfInBounds_toArray, List.set_cons_zero, List.set_cons_succ, Nat.reduceAdd]
                refine kept_val _ (fun _ => rfl) (fun ρ w hw => by have q0 := (y3.below hw).c 3; go_simp; first | done | with_reducible rfl) ?_
                simp only [Act.put, List.setIfInBounds_toArray, List.set_cons_zero, List.set_cons_succ, Nat.reduceAdd]
                refine kept_val _ (fun _ => rfl) (fun ρ w hw => by go_simp; first | done | with_reducible rfl) ?_
                simp only [Act.put, List.setIfInBounds_toArray, List.set_cons_zero, List.set_cons_succ, Nat.reduceAdd]
                refine kept_val _ (fun _ => rfl) (fun ρ w hw => by go_simp; first | done | with_reducible rfl) ?_
                simp only [Act.put, List.setIfInBounds_toArray, List.set_cons_zero, List.set_cons_succ, Nat.reduceAdd]
                refine kept_val _ (fun _ => rfl) (fun ρ w hw => by go_simp; first | done | with_reducible rfl) ?_
                simp only [Act.put, List.setIfInBounds_toArray, List.set_cons_zero, List.set_cons_succ, Nat.reduceAdd]
                refine kept_val _ (fun _ => rfl) (fun ρ w hw => by go_simp; first | done | with_reducible rfl) ?_
                simp only [Act.put, List.setIfInBounds_toArray, List.set_cons_zero, List.set_cons_succ, Nat.reduceAdd]
                refine kept_val _ (fun _ => rfl) (fun ρ w hw => by go_simp; first | done | with_reducible rfl) ?_
                simp only [Act.put, List.setIfInBounds_toArray, List.set_cons_zero, List.set_cons_succ, Nat.reduceAdd]
                refine kept_val _ (fun _ => rfl) (fun ρ w hw => by go_simp; first | done | with_reducible rfl) ?_
                simp only [Act.put, List.setIfInBounds_toArray, List.set_cons_zero, List.set_cons_succ, Nat.reduceAdd]
                refine kept_val _ (fun _ => rfl) (fun ρ w hw => by have q0 := (y3.below hw).c 3; go_simp; first | done | with_reducible rfl) ?_
                simp only [Act.put, List.setIfInBounds_toArray, List.set_cons_zero, List.set_cons_succ, Nat.reduceAdd]
                refine kept_val _ (fun _ => rfl) (fun ρ w hw => by go_simp; first | done | with_reducible rfl) ?_
                simp only [Act.put, List.setIfInBounds_toArray, List.set_cons_zero, List.set_cons_succ, Nat.reduceAdd]
                refine kept_val _ (fun _ => rfl) (fun ρ w hw => by go_simp; first | done | with_reducible rfl) ?_
                simp only [Act.put, List.setIfInBounds_toArray, List.set_cons_zero, List.set_cons_succ, Nat.reduceAdd]
                refine kept_val _ (fun _ => rfl) (fun ρ w hw => by have q0 := (y4.below hw).c 3; go_simp; first | done | with_reducible rfl) ?_
                simp only [Act.put, List.setIfInBounds_toArray, List.set_cons_zero, List.set_cons_succ, Nat.reduceAdd]
                refine kept_val _ (fun _ => rfl) (fun ρ w hw => by go_simp; first | done | with_reducible rfl) ?_
                simp only [Act.put, List.setIfInBounds_toArray, List.set_cons_zero, List.set_cons_succ, Nat.reduceAdd]
                refine kept_val _ (fun _ => rfl) (fun ρ w hw => by go_simp; first | done | with_reducible rfl) ?_
                simp only [Act.put, List.setIfInBounds_toArray, List.set_cons_zero, List.set_cons_succ, Nat.reduceAdd]
                refine kept_end (fun ρ w43 hF => ?_)
                replace x1 := x1.below hF.below
                replace y3 := y3.below hF.below
                replace y4 := y4.below hF.below
                replace hb := bto hb hF.below
                clear hF
                clear t1 t2 t3 t4
                go_wp2
                go_roundw
                case rel => exact ⟨4, by decide, by decide, by first | rfl | go_num, hb, x1, y3, y4⟩
                case measure => first | (simp [intOf]; done) | (simp [intOf]; omega)
              · have t2 : (L 3 != L 5) = false := by simp [bne, t1]
                go_wp2_with fail
                refine wp_region_kept (by kernel_rfl) (by kernel_rfl) ?_
                refine kept_val _ (fun _ => rfl) (fun ρ w hw => by go_simp; first | done | with_reducible rfl) ?_
                simp only [Act.put, List.setIfInBounds_toArray, List.set_cons_zero, List.set_cons_succ, Nat.reduceAdd]
                refine kept_val _ (fun _ => rfl) (fun ρ w hw => by go_simp; first | done | with_reducible rfl) ?_
                simp only [Act.put, List.setIfInBounds_toArray, List.set_cons_zero, List.set_cons_succ, Nat.reduceAdd]
                refine kept_val _ (fun _ => rfl) (fun ρ w hw => by have q0 := (y3.below hw).c 3; go_simp; first | done | with_reducible rfl) ?_
                simp only [Act.put, List.setIfInBounds_toArray, List.set_cons_zero, List.set_cons_succ, Nat.reduceAdd]
                refine kept_val _ (fun _ => rfl) (fun ρ w hw => by go_simp; first | done | with_reducible rfl) ?_
                simp only [Act.put, List.setIfInBounds_toArray, List.set_cons_zero, List.set_cons_succ, Nat.reduceAdd]
                refine kept_val _ (fun _ => rfl) (fun ρ w hw => by go_simp; first | done | with_reducible rfl) ?_
                simp only [Act.put, List.setIfInBounds_toArray, List.set_cons_zero, List.set_cons_succ, Nat.reduceAdd]
                refine kept_val _ (fun _ => rfl) (fun ρ w hw => by go_simp; first | done | with_reducible rfl) ?_
                simp only [Act.put, List.setIfInBounds_toArray, List.set_cons_zero, List.set_cons_succ, Nat.reduceAdd]
                refine kept_off (fun _ => rfl) ?_
                simp only [Act.put, List.setIfInBounds_toArray, List.set_cons_zero, List.set_cons_succ, Nat.reduceAdd]
                refine kept_off (fun _ => rfl) ?_
                simp only [Act.put, List.setIfInBounds_toArray, List.set_cons_zero, List.set_cons_succ, Nat.reduceAdd]
                refine kept_off (fun _ => rfl) ?_
                simp only [Act.put, List.setIfInBounds_toArray, List.set_cons_zero, List.set_cons_succ, Nat.reduceAdd]
                refine kept_off (fun _ => rfl) ?_
                simp only [Act.put, List.setIfInBounds_toArray, List.set_cons_zero, List.set_cons_succ, Nat.reduceAdd]
                refine kept_off (fun _ => rfl) ?_
                simp only [Act.put, List.setIfInBounds_toArray, List.set_cons_zero, List.set_cons_succ, Nat.reduceAdd]
                refine kept_val _ (fun _ => rfl) (fun ρ w hw => by go_simp; first | done | with_reducible rfl) ?_
                simp only [Act.put, List.setIfInBounds_toArray, List.set_cons_zero, List.set_cons_succ, Nat.reduceAdd]
                refine kept_val _ (fun _ => rfl) (fun ρ w hw => by go_simp; first | done | with_reducible rfl) ?_
                simp only [Act.put, List.setIfInBounds_toArray, List.set_cons_zero, List.set_cons_succ, Nat.reduceAdd]
                refine kept_val _ (fun _ => rfl) (fun ρ w hw => by go_simp; first | done | with_reducible rfl) ?_
                simp only [Act.put, List.setIfInBounds_toArray, List.set_cons_zero, List.set_cons_succ, Nat.reduceAdd]
                refine kept_val _ (fun _ => rfl) (fun ρ w hw => by go_simp; first | done | with_reducible rfl) ?_
                simp only [Act.put, List.setIfInBounds_toArray, List.set_cons_zero, List.set_cons_succ, Nat.reduceAdd]
                refine kept_val _ (fun _ => rfl) (fun ρ w hw => by have q0 := (y3.below hw).c 3; go_simp; first | done | with_reducible rfl) ?_
                simp only [Act.put, List.setIfInBounds_toArray, List.set_cons_zero, List.set_cons_succ, Nat.reduceAdd]
                refine kept_val _ (fun _ => rfl) (fun ρ w hw => by go_simp; first | done | with_reducible rfl) ?_
                simp only [Act.put, List.setIfInBounds_toArray, List.set_cons_zero, List.set_cons_succ, Nat.reduceAdd]
                refine kept_val _ (fun _ => rfl) (fun ρ w hw => by go_simp; first | done | with_reducible rfl) ?_
                simp only [Act.put, List.setIfInBounds_toArray, List.set_cons_zero, List.set_cons_succ, Nat.reduceAdd]
                refine kept_val _ (fun _ => rfl) (fun ρ w hw => by have q0 := (y4.below hw).c 3; go_simp; first | done | with_reducible rfl) ?_
                simp only [Act.put, List.setIfInBounds_toArray, List.set_cons_zero, List.set_cons_succ, Nat.reduceAdd]
                refine kept_val _ (fun _ => rfl) (fun ρ w hw => by go_simp; first | done | with_reducible rfl) ?_
                simp only [Act.put, List.setIfInBounds_toArray, List.set_cons_zero, List.set_cons_succ, Nat.reduceAdd]
                refine kept_val _ (fun _ => rfl) (fun ρ w hw => by go_simp; first | done | with_reducible rfl) ?_
                simp only [Act.put, List.setIfInBounds_toArray, List.set_cons_zero, List.set_cons_succ, Nat.reduceAdd]
                refine kept_end (fun ρ w43 hF => ?_)
                replace x1 := x1.below hF.below
                replace y3 := y3.below hF.below
                replace y4 := y4.below hF.below
                replace hb := bto hb hF.below
                clear hF
                clear t1 t2
                go_wp2
                go_roundw
                case rel => exact ⟨4, by decide, by decide, by first | rfl | go_num, hb, x1, y3, y4⟩
                case measure => first | (simp [intOf]; done) | (simp [intOf]; omega)
            · cases t1 : (L 4 == L 5)
              · have t2 : (L 4 != L 5) = true := by simp [bne, t1]
                have h6' : L 4 = L 6 := hone.resolve_left (fun h => by rw [h] at t1; simp at t1)
                have t3 : (L 4 == L 6) = true := by rw [beq_iff_eq]; exact h6'
                have t4 : (L 4 != L 6) = false := by simp [bne, t3]
                clear h6'
                go_wp2_with fail
                refine wp_region_kept (by kernel_rfl) (by kernel_rfl) ?_
                refine kept_val _ (fun _ => rfl) (fun ρ w hw => by go_simp; first | done | with_reducible rfl) ?_
                simp only [Act.put, List.setIfInBounds_toArray, List.set_cons_zero, List.set_cons_succ, Nat.reduceAdd]
                refine kept_val _ (fun _ => rfl) (fun ρ w hw => by go_simp; first | done | with_reducible rfl) ?_
                simp only [Act.put, List.setIfInBounds_toArray, List.set_cons_zero, List.set_cons_succ, Nat.reduceAdd]
                refine kept_val _ (fun _ => rfl) (fun ρ w hw => by have q0 := (y3.below hw).c 4; go_simp; first | done | with_reducible rfl) ?_
                simp only [Act.put, List.setIfInBounds_toArray, List.set_cons_zero, List.set_cons_succ, Nat.reduceAdd]
                refine kept_val _ (fun _ => rfl) (fun ρ w hw => by go_simp; first | done | with_reducible rfl) ?_
                simp only [Act.put, List.setIfInBounds_toArray, List.set_cons_zero, List.set_cons_succ, Nat.reduceAdd]
                refine kept_val _ (fun _ => rfl) (fun ρ w hw => by go_simp; first | done | with_reducible rfl) ?_
                simp only [Act.put, List.setIfInBounds_toArray, List.set_cons_zero, List.set_cons_succ, Nat.reduceAdd]
                refine kept_val _ (fun _ => rfl) (fun ρ w hw => by go_simp; first | done | with_reducible rfl) ?_
                simp only [Act.put, List.setIfInBounds_toArray, List.set_cons_zero, List.set_cons_succ, Nat.reduceAdd]
                refine kept_val _ (fun _ => rfl) (fun ρ w hw => by go_simp; first | done | with_reducible rfl) ?_
                simp only [Act.put, List.setIfInBounds_toArray, List.set_cons_zero, List.set_cons_succ, Nat.reduceAdd]
                refine kept_val _ (fun _ => rfl) (fun ρ w hw => by go_simp; first | done | with_reducible rfl) ?_
                simp only [Act.put, List.setIfInBounds_toArray, List.set_cons_zero, List.set_cons_succ, Nat.reduceAdd]
                refine kept_val _ (fun _ => rfl) (fun ρ w hw => by have q0 := (y3.below hw).c 4; go_simp; first | done | with_reducible rfl) ?_
                simp only [Act.put, List.setIfInBounds_toArray, List.set_cons_zero, List.set_cons_succ, Nat.reduceAdd]
                refine kept_val _ (fun _ => rfl) (fun ρ w hw => by go_simp; first | done | with_reducible rfl) ?_
                simp only [Act.put, List.setIfInBounds_toArray, List.set_cons_zero, List.set_cons_succ, Nat.reduceAdd]
                refine kept_val _ (fun _ => rfl) (fun ρ w hw => by go_simp; first | done | with_reducible rfl) ?_
                simp only [Act.put, List.setIfInBounds_toArray, List.set_cons_zero, List.set_cons_succ, Nat.reduceAdd]
                refine kept_val _ (fun _ => rfl) (fun ρ w hw => by go_simp; first | done | with_reducible rfl) ?_
                simp only [Act.put, List.setIfInBounds_toArray, List.set_cons_zero, List.set_cons_succ, Nat.reduceAdd]
                refine kept_val _ (fun _ => rfl) (fun ρ w hw => by go_simp; first | done | with_reducible rfl) ?_
                simp only [Act.put, List.setIfInBounds_toArray, List.set_cons_zero, List.set_cons_succ, Nat.reduceAdd]
                refine kept_val _ (fun _ => rfl) (fun ρ w hw => by go_simp; first | done | with_reducible rfl) ?_
                simp only [Act.put, List.setIfInBounds_toArray, List.set_cons_zero, List.set_cons_succ, Nat.reduceAdd]
                refine kept_val _ (fun _ => rfl) (fun ρ w hw => by go_simp; first | done | with_reducible rfl) ?_
                simp only [Act.put, List.setIfInBounds_toArray, List.set_cons_zero, List.set_cons_succ, Nat.reduceAdd]
                refine kept_val _ (fun _ => rfl) (fun ρ w hw => by have q0 := (y3.below hw).c 4; go_simp; first | done | with_reducible rfl) ?_
                simp only [Act.put, List.setIfInBounds_toArray, List.set_cons_zero, List.set_cons_succ, Nat.reduceAdd]
                refine kept_val _ (fun _ => rfl) (fun ρ w hw => by go_simp; first | done | with_reducible rfl) ?_
                simp only [Act.put, List.setIfInBounds_toArray, List.set_cons_zero, List.set_cons_succ, Nat.reduceAdd]
                refine kept_val _ (fun _ => rfl) (fun ρ w hw => by go_simp; first | done | with_reducible rfl) ?_
                simp only [Act.put, List.setIfInBounds_toArray, List.set_cons_zero, List.set_cons_succ, Nat.reduceAdd]
                refine kept_val _ (fun _ => rfl) (fun ρ w hw => by have q0 := (y4.below hw).c 4; go_simp; first | done | with_reducible rfl) ?_
                simp only [Act.put, List.setIfInBounds_toArray, List.set_cons_zero, List.set_cons_succ, Nat.reduceAdd]
                refine kept_val _ (fun _ => rfl) (fun ρ w hw => by go_simp; first | done | with_reducible rfl) ?_
                simp only [Act.put, List.setIfInBounds_toArray, List.set_cons_zero, List.set_cons_succ, Nat.reduceAdd]
                refine kept_val _ (fun _ => rfl) (fun ρ w hw => by go_simp; first | done | with_reducible rfl) ?_
                simp only [Act.put, List.setIfInBounds_toArray, List.set_cons_zero, List.set_cons_succ, Nat.reduceAdd]
                refine kept_end (fun ρ w43 hF => ?_)
                replace x1 := x1.below hF.below
                replace y3 := y3.below hF.below
                replace y4 := y4.below hF.below
                replace hb := bto hb hF.below
                clear hF
                clear t1 t2 t3 t4
                go_wp2
                go_roundw
                case rel => exact ⟨5, by decide, by decide, by first | rfl | go_num, hb, x1, y3, y4⟩
                case measure => first | (simp [intOf]; done) | (simp [intOf]; omega)
              · have t2 : (L 4 != L 5) = false := by simp [bne, t1]
                go_wp2_with fail
                refine wp_region_kept (by kernel_rfl) (by kernel_rfl) ?_
                refine kept_val _ (fun _ => rfl) (fun ρ w hw => by go_simp; first | done | with_reducible rfl) ?_
                simp only [Act.put, List.setIfInBounds_toArray, List.set_cons_zero, List.set_cons_succ, Nat.reduceAdd]
                refine kept_val _ (fun _ => rfl) (fun ρ w hw => by go_simp; first | done | with_reducible rfl) ?_
                simp only [Act.put, List.setIfInBounds_toArray, List.set_cons_zero, List.set_cons_succ, Nat.reduceAdd]
                refine kept_val _ (fun _ => rfl) (fun ρ w hw => by have q0 := (y3.below hw).c 4; go_simp; first | done | with_reducible rfl) ?_
                simp only [Act.put, List.setIfInBounds_toArray, List.set_cons_zero, List.set_cons_succ, Nat.reduceAdd]
                refine kept_val _ (fun _ => rfl) (fun ρ w hw => by go_simp; first | done | with_reducible rfl) ?_
                simp only [Act.put, List.setIfInBounds_toArray, List.set_cons_zero, List.set_cons_succ, Nat.reduceAdd]
                refine kept_val _ (fun _ => rfl) (fun ρ w hw => by go_simp; first | done | with_reducible rfl) ?_
                simp only [Act.put, List.setIfInBounds_toArray, List.set_cons_zero, List.set_cons_succ, Nat.reduceAdd]
                refine kept_val _ (fun _ => rfl) (fun ρ w hw => by go_simp; first | done | with_reducible rfl) ?_
                simp only [Act.put, List.setIfInBounds_toArray, List.set_cons_zero, List.set_cons_succ, Nat.reduceAdd]
                refine kept_off (fun _ => rfl) ?_
                simp only [Act.put, List.setIfInBounds_toArray, List.set_cons_zero, List.set_cons_succ, Nat.reduceAdd]
                refine kept_off (fun _ => rfl) ?_
                simp only [Act.put, List.setIfInBounds_toArray, List.set_cons_zero, List.set_cons_succ, Nat.reduceAdd]
                refine kept_off (fun _ => rfl) ?_
                simp only [Act.put, List.setIfInBounds_toArray, List.set_cons_zero, List.set_cons_succ, Nat.reduceAdd]
                refine kept_off (fun _ => rfl) ?_
                simp only [Act.put, List.setIfInBounds_toArray, List.set_cons_zero, List.set_cons_succ, Nat.reduceAdd]
                refine kept_off (fun _ => rfl) ?_
                simp only [Act.put, List.setIfInBounds_toArray, List.set_cons_zero, List.set_cons_succ, Nat.reduceAdd]
                refine kept_val _ (fun _ => rfl) (fun ρ w hw => by go_simp; first | done | with_reducible rfl) ?_
                simp only [Act.put, List.setIfInBounds_toArray, List.set_cons_zero, List.set_cons_succ, Nat.reduceAdd]
                refine kept_val _ (fun _ => rfl) (fun ρ w hw => by go_simp; first | done | with_reducible rfl) ?_
                simp only [Act.put, List.setIfInBounds_toArray, List.set_cons_zero, List.set_cons_succ, Nat.reduceAdd]
                refine kept_val _ (fun _ => rfl) (fun ρ w hw => by go_simp; first | done | with_reducible rfl) ?_
                simp only [Act.put, List.setIfInBounds_toArray, List.set_cons_zero, List.set_cons_succ, Nat.reduceAdd]
                refine kept_val _ (fun _ => rfl) (fun ρ w hw => by go_simp; first | done | with_reducible rfl) ?_
                simp only [Act.put, List.setIfInBounds_toArray, List.set_cons_zero, List.set_cons_succ, Nat.reduceAdd]
                refine kept_val _ (fun _ => rfl) (fun ρ w hw => by have q0 := (y3.below hw).c 4; go_simp; first | done | with_reducible rfl) ?_
                simp only [Act.put, List.setIfInBounds_toArray, List.set_cons_zero, List.set_cons_succ, Nat.reduceAdd]
                refine kept_val _ (fun _ => rfl) (fun ρ w hw => by go_simp; first | done | with_reducible rfl) ?_
                simp only [Act.put, List.setIfInBounds_toArray, List.set_cons_zero, List.set_cons_succ, Nat.reduceAdd]
                refine kept_val _ (fun _ => rfl) (fun ρ w hw => by go_simp; first | done | with_reducible rfl) ?_
                simp only [Act.put, List.setIfInBounds_toArray, List.set_cons_zero, List.set_cons_succ, Nat.reduceAdd]
                refine kept_val _ (fun _ => rfl) (fun ρ w hw => by have q0 := (y4.below hw).c 4; go_simp; first | done | with_reducible rfl) ?_
                simp only [Act.put, List.setIfInBounds_toArray, List.set_cons_zero, List.set_cons_succ, Nat.reduceAdd]
                refine kept_val _ (fun _ => rfl) (fun ρ w hw => by go_simp; first | done | with_reducible rfl) ?_
                simp only [Act.put, List.setIfInBounds_toArray, List.set_cons_zero, List.set_cons_succ, Nat.reduceAdd]
                refine kept_val _ (fun _ => rfl) (fun ρ w hw => by go_simp; first | done | with_reducible rfl) ?_
                simp only [Act.put, List.setIfInBounds_toArray, List.set_cons_zero, List.set_cons_succ, Nat.reduceAdd]
                refine kept_end (fun ρ w43 hF => ?_)
                replace x1 := x1.below hF.below
                replace y3 := y3.below hF.below
                replace y4 := y4.below hF.below
                replace hb := bto hb hF.below
                clear hF
                clear t1 t2
                go_wp2
                go_roundw
                case rel => exact ⟨5, by decide, by decide, by first | rfl | go_num, hb, x1, y3, y4⟩
                case measure => first | (simp [intOf]; done) | (simp [intOf]; omega)
          · have e4 : decide (m ≤ 4) = false := decide_eq_false h4
            clear h1 h5
            go_wp2_with fail
            refine wp_region_kept (by kernel_rfl) (by kernel_rfl) ?_
            refine kept_val _ (fun _ => rfl) (fun ρ w hw => by go_simp; first | done | with_reducible rfl) ?_
            simp only [Act.put, List.setIfInBounds_toArray, List.set_cons_zero, List.set_cons_succ, Nat.reduceAdd]
            refine kept_val _ (fun _ => rfl) (fun ρ w hw => by have q0 := (y3.below hw).c 3; go_simp; first | done | with_reducible rfl) ?_
            simp only [Act.put, List.setIfInBounds_toArray, List.set_cons_zero, List.set_cons_succ, Nat.reduceAdd]
            refine kept_val _ (fun _ => rfl) (fun ρ w hw => by go_simp; first | done | with_reducible rfl) ?_
            simp only [Act.put, List.setIfInBounds_toArray, List.set_cons_zero, List.set_cons_succ, Nat.reduceAdd]
            refine kept_val _ (fun _ => rfl) (fun ρ w hw => by have q0 := (y3.below hw).c 4; go_simp; first | done | with_reducible rfl) ?_
            simp only [Act.put, List.setIfInBounds_toArray, List.set_cons_zero, List.set_cons_succ, Nat.reduceAdd]
            refine kept_val _ (fun _ => rfl) (fun ρ w hw => by go_simp; first | done | with_reducible rfl) ?_
            simp only [Act.put, List.setIfInBounds_toArray, List.set_cons_zero, List.set_cons_succ, Nat.reduceAdd]
            refine kept_val _ (fun _ => rfl) (fun ρ w hw => by go_simp; first | done | with_reducible rfl) ?_
            simp only [Act.put, List.setIfInBounds_toArray, List.set_cons_zero, List.set_cons_succ, Nat.reduceAdd]
            refine kept_end (fun ρ w43 hF => ?_)
            replace x1 := x1.below hF.below
            replace y3 := y3.below hF.below
            replace y4 := y4.below hF.below
            replace hb := bto hb hF.below
            clear hF
            go_wp2_with fail
            refine wp_region_kept (by kernel_rfl) (by kernel_rfl) ?_
            refine kept_val _ (fun _ => rfl) (fun ρ w hw => by have q0 := (x1.below hw).c0; have q1 := (x1.below hw).c1; go_simp; first | done | with_reducible rfl) ?_
            simp only [Act.put, List.setIfInBounds_toArray, List.set_cons_zero, List.set_cons_succ, Nat.reduceAdd]
            refine kept_call _ _ _ (fun _ => rfl) (fun ρ w hw => by go_simp; first | done | with_reducible rfl) (fun w hw => R0.out.of hG (bto hb hw)) ?_
            simp only [Act.put, List.setIfInBounds_toArray, List.set_cons_zero, List.set_cons_succ, Nat.reduceAdd]
            refine kept_call _ _ _ (fun _ => rfl) (fun ρ w hw => by go_simp; first | done | with_reducible rfl) (fun w hw => CZ.out.of hG (bto hb hw)) ?_
            simp only [Act.put, List.setIfInBounds_toArray, List.set_cons_zero, List.set_cons_succ, Nat.reduceAdd]
            refine kept_val _ (fun _ => rfl) (fun ρ w hw => by go_simp; first | done | with_reducible rfl) ?_
            simp only [Act.put, List.setIfInBounds_toArray, List.set_cons_zero, List.set_cons_succ, Nat.reduceAdd]
            refine kept_end (fun ρ w44 hF => ?_)
            replace x1 := x1.below hF.below
            replace hb := bto hb hF.below
            clear hF
            clear x1
            by_cases hz : cz < 0
            · have e5 : decide (cz < 0) = true := decide_eq_true hz
              obtain ⟨g1, g2⟩ := HNG.out hz
              have t1 : (L 4 == L 5) = true := by rw [beq_iff_eq]; exact g1
              have t2 : (L 3 == L 6) = true := by rw [beq_iff_eq]; exact g2
              clear g1 g2
              go_wp2_with fail
              ((with_reducible refine (CW.out.of hG hb).mono ?_); rintro e w45 ⟨rfl, hb45⟩)
              replace hb := bto hb hb45
              clear hb45
              go_wp2
              go_ret
              exact ⟨rfl, hb⟩
            · have e5 : decide (cz < 0) = false := decide_eq_false hz
              obtain ⟨g1, g2⟩ := HPS.out (by omega)
              have t1 : (L 3 == L 5) = true := by rw [beq_iff_eq]; exact g1
              have t2 : (L 4 == L 6) = true := by rw [beq_iff_eq]; exact g2
              clear g1 g2
              go_wp2_with fail
              ((with_reducible refine (CW.out.of hG hb).mono ?_); rintro e w45 ⟨rfl, hb45⟩)
              replace hb := bto hb hb45
              clear hb45
              go_wp2
              go_ret
              exact ⟨rfl, hb⟩
      · obtain ⟨h51, h56⟩ := HD0.out hdn
        rw [h51] at CA
        have t1 : (L 5 == L 6) = false := by rw [beq_eq_false_iff_ne]; exact h56
        have t2 : (L 5 != L 6) = true := by simp [bne, t1]
        clear h51 h56 hdn HD1 HD0 HDN
        have k5 : decide (0 < c5) = false := decide_eq_false (by omega)
        have k6 : decide (0 < c6) = false := decide_eq_false (by omega)
        go_wp2_with fail
        refine wp_region_kept (by kernel_rfl) (by kernel_rfl) ?_
        refine kept_val _ (fun _ => rfl) (fun ρ w hw => by go_simp; first | done | with_reducible rfl) ?_
        simp only [Act.put, List.setIfInBounds_toArray, List.set_cons_zero, List.set_cons_succ, Nat.reduceAdd]
        refine kept_call _ _ _ (fun _ => rfl) (fun ρ w hw => by go_simp; first | done | with_reducible rfl) (fun w hw => O5.out.of hG (bto hb hw)) ?_
        simp only [Act.put, List.setIfInBounds_toArray, List.set_cons_zero, List.set_cons_succ, Nat.reduceAdd]
        refine kept_val _ (fun _ => rfl) (fun ρ w hw => by have q0 := (x1.below hw).c0; have q1 := (x1.below hw).c1; go_simp; first | done | with_reducible rfl) ?_
        simp only [Act.put, List.setIfInBounds_toArray, List.set_cons_zero, List.set_cons_succ, Nat.reduceAdd]
        refine kept_call _ _ _ (fun _ => rfl) (fun ρ w hw => by go_simp; first | done | with_reducible rfl) (fun w hw => C5.out.of hG (bto hb hw)) ?_
        simp only [Act.put, List.setIfInBounds_toArray, List.set_cons_zero, List.set_cons_succ, Nat.reduceAdd]
        refine kept_val _ (fun _ => rfl) (fun ρ w hw => by go_simp; first | done | with_reducible rfl) ?_
        simp only [Act.put, List.setIfInBounds_toArray, List.set_cons_zero, List.set_cons_succ, Nat.reduceAdd]
        refine kept_val _ (fun _ => rfl) (fun ρ w hw => by go_simp; first | done | with_reducible rfl) ?_
        simp only [Act.put, List.setIfInBounds_toArray, List.set_cons_zero, List.set_cons_succ, Nat.reduceAdd]
        refine kept_val _ (fun _ => rfl) (fun ρ w hw => by have q0 := (x1.below hw).c0; have q1 := (x1.below hw).c1; go_simp; first | done | with_reducible rfl) ?_
        simp only [Act.put, List.setIfInBounds_toArray, List.set_cons_zero, List.set_cons_succ, Nat.reduceAdd]
        refine kept_val _ (fun _ => rfl) (fun ρ w hw => by go_simp; first | done | with_reducible rfl) ?_
        simp only [Act.put, List.setIfInBounds_toArray, List.set_cons_zero, List.set_cons_succ, Nat.reduceAdd]
        refine kept_call _ _ _ (fun _ => rfl) (fun ρ w hw => by go_simp; first | done | with_reducible rfl) (fun w hw => O6.out.of hG (bto hb hw)) ?_
        simp only [Act.put, List.setIfInBounds_toArray, List.set_cons_zero, List.set_cons_succ, Nat.reduceAdd]
        refine kept_call _ _ _ (fun _ => rfl) (fun ρ w hw => by go_simp; first | done | with_reducible rfl) (fun w hw => C6.out.of hG (bto hb hw)) ?_
        simp only [Act.put, List.setIfInBounds_toArray, List.set_cons_zero, List.set_cons_succ, Nat.reduceAdd]
        refine kept_val _ (fun _ => rfl) (fun ρ w hw => by go_simp; first | done | with_reducible rfl) ?_
        simp only [Act.put, List.setIfInBounds_toArray, List.set_cons_zero, List.set_cons_succ, Nat.reduceAdd]
        refine kept_val _ (fun _ => rfl) (fun ρ w hw => by go_simp; first | done | with_reducible rfl) ?_
        simp only [Act.put, List.setIfInBounds_toArray, List.set_cons_zero, List.set_cons_succ, Nat.reduceAdd]
        refine kept_val _ (fun _ => rfl) (fun ρ w hw => by go_simp; first | done | with_reducible rfl) ?_
        simp only [Act.put, List.setIfInBounds_toArray, List.set_cons_zero, List.set_cons_succ, Nat.reduceAdd]
        refine kept_val _ (fun _ => rfl) (fun ρ w hw => by go_simp; first | done | with_reducible rfl) ?_
        simp only [Act.put, List.setIfInBounds_toArray, List.set_cons_zero, List.set_cons_succ, Nat.reduceAdd]
        refine kept_val _ (fun _ => rfl) (fun ρ w hw => by go_simp; first | done | with_reducible rfl) ?_
        simp only [Act.put, List.setIfInBounds_toArray, List.set_cons_zero, List.set_cons_succ, Nat.reduceAdd]
        refine kept_val _ (fun _ => rfl) (fun ρ w hw => by go_simp; first | done | with_reducible rfl) ?_
        simp only [Act.put, List.setIfInBounds_toArray, List.set_cons_zero, List.set_cons_succ, Nat.reduceAdd]
        refine kept_val _ (fun _ => rfl) (fun ρ w hw => by go_simp; first | done | with_reducible rfl) ?_
        simp only [Act.put, List.setIfInBounds_toArray, List.set_cons_zero, List.set_cons_succ, Nat.reduceAdd]
        refine kept_val _ (fun _ => rfl) (fun ρ w hw => by go_simp; first | done | with_reducible rfl) ?_
        simp only [Act.put, List.setIfInBounds_toArray, List.set_cons_zero, List.set_cons_succ, Nat.reduceAdd]
        refine kept_call _ _ _ (fun _ => rfl) (fun ρ w hw => by go_simp; first | done | with_reducible rfl) (fun w hw => CA.out.of hG (bto hb hw)) ?_
        simp only [Act.put, List.setIfInBounds_toArray, List.set_cons_zero, List.set_cons_succ, Nat.reduceAdd]
        refine kept_val _ (fun _ => rfl) (fun ρ w hw => by go_simp; first | done | with_reducible rfl) ?_
        simp only [Act.put, List.setIfInBounds_toArray, List.set_cons_zero, List.set_cons_succ, Nat.reduceAdd]
        refine kept_val _ (fun _ => rfl) (fun ρ w hw => by go_simp; first | done | with_reducible rfl) ?_
        simp only [Act.put, List.setIfInBounds_toArray, List.set_cons_zero, List.set_cons_succ, Nat.reduceAdd]
        refine kept_val _ (fun _ => rfl) (fun ρ w hw => by go_simp; first | done | with_reducible rfl) ?_
        simp only [Act.put, List.setIfInBounds_toArray, List.set_cons_zero, List.set_cons_succ, Nat.reduceAdd]
        refine kept_val _ (fun _ => rfl) (fun ρ w hw => by go_simp; first | done | with_reducible rfl) ?_
        simp only [Act.put, List.setIfInBounds_toArray, List.set_cons_zero, List.set_cons_succ, Nat.reduceAdd]
        refine kept_val _ (fun _ => rfl) (fun ρ w hw => by go_simp; first | done | with_reducible rfl) ?_
        simp only [Act.put, List.setIfInBounds_toArray, List.set_cons_zero, List.set_cons_succ, Nat.reduceAdd]
        refine kept_val _ (fun _ => rfl) (fun ρ w hw => by go_simp; first | done | with_reducible rfl) ?_
        simp only [Act.put, List.setIfInBounds_toArray, List.set_cons_zero, List.set_cons_succ, Nat.reduceAdd]
        refine kept_val _ (fun _ => rfl) (fun ρ w hw => by go_simp; first | done | with_reducible rfl) ?_
        simp only [Act.put, List.setIfInBounds_toArray, List.set_cons_zero, List.set_cons_succ, Nat.reduceAdd]
        refine kept_val _ (fun _ => rfl) (fun ρ w hw => by have q0 := (y4.below hw).c 6; go_simp; first | done | with_reducible rfl) ?_
        simp only [Act.put, List.setIfInBounds_toArray, List.set_cons_zero, List.set_cons_succ, Nat.reduceAdd]
        refine kept_val _ (fun _ => rfl) (fun ρ w hw => by go_simp; first | done | with_reducible rfl) ?_
        simp only [Act.put, List.setIfInBounds_toArray, List.set_cons_zero, List.set_cons_succ, Nat.reduceAdd]
        refine kept_val _ (fun _ => rfl) (fun ρ w hw => by go_simp; first | done | with_reducible rfl) ?_
        simp only [Act.put, List.setIfInBounds_toArray, List.set_cons_zero, List.set_cons_succ, Nat.reduceAdd]
        refine kept_val _ (fun _ => rfl) (fun ρ w hw => by go_simp; first | done | with_reducible rfl) ?_
        simp only [Act.put, List.setIfInBounds_toArray, List.set_cons_zero, List.set_cons_succ, Nat.reduceAdd]
        refine kept_val _ (fun _ => rfl) (fun ρ w hw => by go_simp; first | done | with_reducible rfl) ?_
        simp only [Act.put, List.setIfInBounds_toArray, List.set_cons_zero, List.set_cons_succ, Nat.reduceAdd]
        refine kept_val _ (fun _ => rfl) (fun ρ w hw => by go_simp; first | done | with_reducible rfl) ?_
        simp only [Act.put, List.setIfInBounds_toArray, List.set_cons_zero, List.set_cons_succ, Nat.reduceAdd]
        refine kept_val _ (fun _ => rfl) (fun ρ w hw => by have q0 := (y4.below hw).c 5; go_simp; first | done | with_reducible rfl) ?_
        simp only [Act.put, List.setIfInBounds_toArray, List.set_cons_zero, List.set_cons_succ, Nat.reduceAdd]
        refine kept_val _ (fun _ => rfl) (fun ρ w hw => by go_simp; first | done | with_reducible rfl) ?_
        simp only [Act.put, List.setIfInBounds_toArray, List.set_cons_zero, List.set_cons_succ, Nat.reduceAdd]
        refine kept_val _ (fun _ => rfl) (fun ρ w hw => by go_simp; first | done | with_reducible rfl) ?_
        simp only [Act.put, List.setIfInBounds_toArray, List.set_cons_zero, List.set_cons_succ, Nat.reduceAdd]
        refine kept_end (fun ρ w42 hF => ?_)
        replace x1 := x1.below hF.below
        replace y3 := y3.below hF.below
        replace y4 := y4.below hF.below
        replace hb := bto hb hF.below
        clear hF
        go_wp2_with fail
        clear t1 t2 k5 k6 h5 h6
        go_loopw [12] (fun iv wr => ∃ m : Int, 1 ≤ m ∧ m ≤ 5 ∧ iv = .int .i64 m ∧ Below w.heap.size w wr ∧ FBox wr w.heap.size (.string ⟨l.toArray⟩) (.string ⟨l'.toArray⟩) ∧ Blk wr n3 #[.string ⟨#[]⟩, .string ⟨(L 1).toArray⟩, .string ⟨(L 2).toArray⟩, .string ⟨(L 3).toArray⟩, .string ⟨(L 4).toArray⟩, .string ⟨(L 5).toArray⟩, .string ⟨(L 6).toArray⟩] ∧ Blk wr (n3 + 1) #[.string ⟨#[]⟩, .string ⟨(L 1).toArray⟩, .string ⟨(L 2).toArray⟩, .string ⟨(L 3).toArray⟩, .string ⟨(L 4).toArray⟩, .string ⟨(L 6).toArray⟩, .string ⟨(L 5).toArray⟩]) (fun iv _ => (5 - intOf iv).toNat)
        case atStart => exact ⟨1, by decide, by decide, rfl, hb, x1, y3, y4⟩
        case round =>
          clear hb x1 y3 y4
          obtain ⟨m, h1, h5, rfl, hb, x1, y3, y4⟩ := hrel
          by_cases h4 : m ≤ 4
          · have e4 : decide (m ≤ 4) = true := decide_eq_true h4
            have hone := HM.out.one m
            have hm : m = 1 ∨ m = 2 ∨ m = 3 ∨ m = 4 := by omega
            rcases hm with rfl | rfl | rfl | rfl
            · cases t1 : (L 1 == L 5)
              · have t2 : (L 1 != L 5) = true := by simp [bne, t1]
                have h6' : L 1 = L 6 := hone.resolve_left (fun h => by rw [h] at t1; simp at t1)
                have t3 : (L 1 == L 6) = true := by rw [beq_iff_eq]; exact h6'
                have t4 : (L 1 != L 6) = false := by simp [bne, t3]
                clear h6'
                go_wp2_with fail
                refine wp_region_kept (by kernel_rfl) (by kernel_rfl) ?_
                refine kept_val _ (fun _ => rfl) (fun ρ w hw => by go_simp; first | done | with_reducible rfl) ?_
                simp only [Act.put, List.setIfInBounds_toArray, List.set_cons_zero, List.set_cons_succ, Nat.reduceAdd]
                refine kept_val _ (fun _ => rfl) (fun ρ w hw => by go_simp; first | done | with_reducible rfl) ?_
                simp only [Act.put, List.setIfInBounds_toArray, List.set_cons_zero, List.set_cons_succ, Nat.reduceAdd]
                refine kept_val _ (fun _ => rfl) (fun ρ w hw => by have q0 := (y3.below hw).c 1; go_simp; first | done | with_reducible rfl) ?_
                simp only [Act.put, List.setIfInBounds_toArray, List.set_cons_zero, List.set_cons_succ, Nat.reduceAdd]
                refine kept_val _ (fun _ => rfl) (fun ρ w hw => by go_simp; first | done | with_reducible rfl) ?_
                simp only [Act.put, List.setIfInBounds_toArray, List.set_cons_zero, List.set_cons_succ, Nat.reduceAdd]
                refine kept_val _ (fun _ => rfl) (fun ρ w hw => by go_simp; first | done | with_reducible rfl) ?_
                simp only [Act.put, List.setIfInBounds_toArray, List.set_cons_zero, List.set_cons_succ, Nat.reduceAdd]
                refine kept_val _ (fun _ => rfl) (fun ρ w hw => by go_simp; first | done | with_reducible rfl) ?_
                simp only [Act.put, List.setIfInBounds_toArray, List.set_cons_zero, List.set_cons_succ, Nat.reduceAdd]
                refine kept_val _ (fun _ => rfl) (fun ρ w hw => by go_simp; first | done | with_reducible rfl) ?_
                simp only [Act.put, List.setIfInBounds_toArray, List.set_cons_zero, List.set_cons_succ, Nat.reduceAdd]
                refine kept_val _ (fun _ => rfl) (fun ρ w hw => by go_simp; first | done | with_reducible rfl) ?_
                simp only [Act.put, List.setIfInBounds_toArray, List.set_cons_zero, List.set_cons_succ, Nat.reduceAdd]
                refine kept_val _ (fun _ => rfl) (fun ρ w hw => by have q0 := (y3.below hw).c 1; go_simp; first | done | with_reducible rfl) ?_
                simp only [Act.put, List.setIfInBounds_toArray, List.set_cons_zero, List.set_cons_succ, Nat.reduceAdd]
                refine kept_val _ (fun _ => rfl) (fun ρ w hw => by go_simp; first | done | with_reducible rfl) ?_
                simp only [Act.put, List.setIfInBounds_toArray, List.set_cons_zero, List.set_cons_succ, Nat.reduceAdd]
                refine kept_val _ (fun _ => rfl) (fun ρ w hw => by go_simp; first | done | with_reducible rfl) ?_
                simp only [Act.put, List.setIfInBounds_toArray, List.set_cons_zero, List.set_cons_succ, Nat.reduceAdd]
                refine kept_val _ (fun _ => rfl) (fun ρ w hw => by go_simp; first | done | with_reducible rfl) ?_
                simp only [Act.put, List.setIfInBounds_toArray, List.set_cons_zero, List.set_cons_succ, Nat.reduceAdd]
                refine kept_val _ (fun _ => rfl) (fun ρ w hw => by go_simp; first | done | with_reducible rfl) ?_
                simp only [Act.put, List.setIfInBounds_toArray, List.set_cons_zero, List.set_cons_succ, Nat.reduceAdd]
                refine kept_val _ (fun _ => rfl) (fun ρ w hw => by go_simp; first | done | with_reducible rfl) ?_
                simp only [Act.put, List.setIfInBounds_toArray, List.set_cons_zero, List.set_cons_succ, Nat.reduceAdd]
                refine kept_val _ (fun _ => rfl) (fun ρ w hw => by go_simp; first | done | with_reducible rfl) ?_
                simp only [Act.put, List.setIfInBounds_toArray, List.set_cons_zero, List.set_cons_succ, Nat.reduceAdd]
                refine kept_val _ (fun _ => rfl) (fun ρ w hw => by have q0 := (y3.below hw).c 1; go_simp; first | done | with_reducible rfl) ?_
                simp only [Act.put, List.setIfInBounds_toArray, List.set_cons_zero, List.set_cons_succ, Nat.reduceAdd]
                refine kept_val _ (fun _ => rfl) (fun ρ w hw => by go_simp; first | done | with_reducible rfl) ?_
                simp only [Act.put, List.setIfInBounds_toArray, List.set_cons_zero, List.set_cons_succ, Nat.reduceAdd]
                refine kept_val _ (fun _ => rfl) (fun ρ w hw => by go_simp; first | done | with_reducible rfl) ?_
                simp only [Act.put, List.setIfInBounds_toArray, List.set_cons_zero, List.set_cons_succ, Nat.reduceAdd]
                refine kept_val _ (fun _ => rfl) (fun ρ w hw => by have q0 := (y4.below hw).c 1; go_simp; first | done | with_reducible rfl) ?_
                simp only [Act.put, List.setIfInBounds_toArray, List.set_cons_zero, List.set_cons_succ, Nat.reduceAdd]
                refine kept_val _ (fun _ => rfl) (fun ρ w hw => by go_simp; first | done | with_reducible rfl) ?_
                simp only [Act.put, List.setIfInBounds_toArray, List.set_cons_zero, List.set_cons_succ, Nat.reduceAdd]
                refine kept_val _ (fun _ => rfl) (fun ρ w hw => by go_simp; first | done | with_reducible rfl) ?_
                simp only [Act.put, List.setIfInBounds_toArray, List.set_cons_zero, List.set_cons_succ, Nat.reduceAdd]
                refine kept_end (fun ρ w43 hF => ?_)
                replace x1 := x1.below hF.below
                replace y3 := y3.below hF.below
                replace y4 := y4.below hF.below
                replace hb := bto hb hF.below
                clear hF
                clear t1 t2 t3 t4
                go_wp2
                go_roundw
                case rel => exact ⟨2, by decide, by decide, by first | rfl | go_num, hb, x1, y3, y4⟩
                case measure => first | (simp [intOf]; done) | (simp [intOf]; omega)
              · have t2 : (L 1 != L 5) = false := by simp [bne, t1]
                go_wp2_with fail
                refine wp_region_kept (by kernel_rfl) (by kernel_rfl) ?_
                refine kept_val _ (fun _ => rfl) (fun ρ w hw => by go_simp; first | done | with_reducible rfl) ?_
                simp only [Act.put, List.setIfInBounds_toArray, List.set_cons_zero, List.set_cons_succ, Nat.reduceAdd]
                refine kept_val _ (fun _ => rfl) (fun ρ w hw => by go_simp; first | done | with_reducible rfl) ?_
                simp only [Act.put, List.setIfInBounds_toArray, List.set_cons_zero, List.set_cons_succ, Nat.reduceAdd]
                refine kept_val _ (fun _ => rfl) (fun ρ w hw => by have q0 := (y3.below hw).c 1; go_simp; first | done | with_reducible rfl) ?_
                simp only [Act.put, List.setIfInBounds_toArray, List.set_cons_zero, List.set_cons_succ, Nat.reduceAdd]
                refine kept_val _ (fun _ => rfl) (fun ρ w hw => by go_simp; first | done | with_reducible rfl) ?_
                simp only [Act.put, List.setIfInBounds_toArray, List.set_cons_zero, List.set_cons_succ, Nat.reduceAdd]
                refine kept_val _ (fun _ => rfl) (fun ρ w hw => by go_simp; first | done | with_reducible rfl) ?_
                simp only [Act.put, List.setIfInBounds_toArray, List.set_cons_zero, List.set_cons_succ, Nat.reduceAdd]
                refine kept_val _ (fun _ => rfl) (fun ρ w hw => by go_simp; first | done | with_reducible rfl) ?_
                simp only [Act.put, List.setIfInBounds_toArray, List.set_cons_zero, List.set_cons_succ, Nat.reduceAdd]
                refine kept_off (fun _ => rfl) ?_
                simp only [Act.put, List.setIfInBounds_toArray, List.set_cons_zero, List.set_cons_succ, Nat.reduceAdd]
                refine kept_off (fun _ => rfl) ?_
                simp only [Act.put, List.setIfInBounds_toArray, List.set_cons_zero, List.set_cons_succ, Nat.reduceAdd]
                refine kept_off (fun _ => rfl) ?_
                simp only [Act.put, List.setIfInBounds_toArray, List.set_cons_zero, List.set_cons_succ, Nat.reduceAdd]
                refine kept_off (fun _ => rfl) ?_
                simp only [Act.put, List.setIfInBounds_toArray, List.set_cons_zero, List.set_cons_succ, Nat.reduceAdd]
                refine kept_off (fun _ => rfl) ?_
                simp only [Act.put, List.setIfInBounds_toArray, List.set_cons_zero, List.set_cons_succ, Nat.reduceAdd]
                refine kept_val _ (fun _ => rfl) (fun ρ w hw => by go_simp; first | done | with_reducible rfl) ?_
                simp only [Act.put, List.setIfInBounds_toArray, List.set_cons_zero, List.set_cons_succ, Nat.reduceAdd]
                refine kept_val _ (fun _ => rfl) (fun ρ w hw => by go_simp; first | done | with_reducible rfl) ?_
                simp only [Act.put, List.setIfInBounds_toArray, List.set_cons_zero, List.set_cons_succ, Nat.reduceAdd]
                refine kept_val _ (fun _ => rfl) (fun ρ w hw => by go_simp; first | done | with_reducible rfl) ?_
                simp only [Act.put, List.setIfInBounds_toArray, List.set_cons_zero, List.set_cons_succ, Nat.reduceAdd]
                refine kept_val _ (fun _ => rfl) (fun ρ w hw => by go_simp; first | done | with_reducible rfl) ?_
                simp only [Act.put, List.setIfInBounds_toArray, List.set_cons_zero, List.set_cons_succ, Nat.reduceAdd]
                refine kept_val _ (fun _ => rfl) (fun ρ w hw => by have q0 := (y3.below hw).c 1; go_simp; first | done | with_reducible rfl) ?_
                simp only [Act.put, List.setIfInBounds_toArray, List.set_cons_zero, List.set_cons_succ, Nat.reduceAdd]
                refine kept_val _ (fun _ => rfl) (fun ρ w hw => by go_simp; first | done | with_reducible rfl) ?_
                simp only [Act.put, List.setIfInBounds_toArray, List.set_cons_zero, List.set_cons_succ, Nat.reduceAdd]
                refine kept_val _ (fun _ => rfl) (fun ρ w hw => by go_simp; first | done | with_reducible rfl) ?_
                simp only [Act.put, List.setIfInBounds_toArray, List.set_cons_zero, List.set_cons_succ, Nat.reduceAdd]
                refine kept_val _ (fun _ => rfl) (fun ρ w hw => by have q0 := (y4.below hw).c 1; go_simp; first | done | with_reducible rfl) ?_
                simp only [Act.put, List.setIfInBounds_toArray, List.set_cons_zero, List.set_cons_succ, Nat.reduceAdd]
                refine kept_val _ (fun _ => rfl) (fun ρ w hw => by go_simp; first | done | with_reducible rfl) ?_
                simp only [Act.put, List.setIfInBounds_toArray, List.set_cons_zero, List.set_cons_succ, Nat.reduceAdd]
                refine kept_val _ (fun _ => rfl) (fun ρ w hw => by go_simp; first | done | with_reducible rfl) ?_
                simp only [Act.put, List.setIfInBounds_toArray, List.set_cons_zero, List.set_cons_succ, Nat.reduceAdd]
                refine kept_end (fun ρ w43 hF => ?_)
                replace x1 := x1.below hF.below
                replace y3 := y3.below hF.below
                replace y4 := y4.below hF.below
                replace hb := bto hb hF.below
                clear hF
                clear t1 t2
                go_wp2
                go_roundw
                case rel => exact ⟨2, by decide, by decide, by first | rfl | go_num, hb, x1, y3, y4⟩
                case measure => first | (simp [intOf]; done) | (simp [intOf]; omega)
            · cases t1 : (L 2 == L 5)
              · have t2 : (L 2 != L 5) = true := by simp [bne, t1]
                have h6' : L 2 = L 6 := hone.resolve_left (fun h => by rw [h] at t1; simp at t1)
                have t3 : (L 2 == L 6) = true := by rw [beq_iff_eq]; exact h6'
                have t4 : (L 2 != L 6) = false := by simp [bne, t3]
                clear h6'
                go_wp2_with fail
                refine wp_region_kept (by kernel_rfl) (by kernel_rfl) ?_
                refine kept_val _ (fun _ => rfl) (fun ρ w hw => by go_simp; first | done | with_reducible rfl) ?_
                simp only [Act.put, List.setIfInBounds_toArray, List.set_cons_zero, List.set_cons_succ, Nat.reduceAdd]
                refine kept_val _ (fun _ => rfl) (fun ρ w hw => by go_simp; first | done | with_reducible rfl) ?_
                simp only [Act.put, List.setIfInBounds_toArray, List.set_cons_zero, List.set_cons_succ, Nat.reduceAdd]
                refine kept_val _ (fun _ => rfl) (fun ρ w hw => by have q0 := (y3.below hw).c 2; go_simp; first | done | with_reducible rfl) ?_
                simp only [Act.put, List.setIfInBounds_toArray, List.set_cons_zero, List.set_cons_succ, Nat.reduceAdd]
                refine kept_val _ (fun _ => rfl) (fun ρ w hw => by go_simp; first | done | with_reducible rfl) ?_
                simp only [Act.put, List.setIfInBounds_toArray, List.set_cons_zero, List.set_cons_succ, Nat.reduceAdd]
                refine kept_val _ (fun _ => rfl) (fun ρ w hw => by go_simp; first | done | with_reducible rfl) ?_
                simp only [Act.put, List.setIfInBounds_toArray, List.set_cons_zero, List.set_cons_succ, Nat.reduceAdd]
                refine kept_val _ (fun _ => rfl) (fun ρ w hw => by go_simp; first | done | with_reducible rfl) ?_
                simp only [Act.put, List.setIfInBounds_toArray, List.set_cons_zero, List.set_cons_succ, Nat.reduceAdd]
                refine kept_val _ (fun _ => rfl) (fun ρ w hw => by go_simp; first | done | with_reducible rfl) ?_
                simp only [Act.put, List.setIfInBounds_toArray, List.set_cons_zero, List.set_cons_succ, Nat.reduceAdd]
                refine kept_val _ (fun _ => rfl) (fun ρ w hw => by go_simp; first | done | with_reducible rfl) ?_
                simp only [Act.put, List.setIfInBounds_toArray, List.set_cons_zero, List.set_cons_succ, Nat.reduceAdd]
                refine kept_val _ (fun _ => rfl) (fun ρ w hw => by have q0 := (y3.below hw).c 2; go_simp; first | done | with_reducible rfl) ?_
                simp only [Act.put, List.setIfInBounds_toArray, List.set_cons_zero, List.set_cons_succ, Nat.reduceAdd]
                refine kept_val _ (fun _ => rfl) (fun ρ w hw => by go_simp; first | done | with_reducible rfl) ?_
                simp only [Act.put, List.setIfInBounds_toArray, List.set_cons_zero, List.set_cons_succ, Nat.reduceAdd]
                refine kept_val _ (fun _ => rfl) (fun ρ w hw => by go_simp; first | done | with_reducible rfl) ?_
                simp only [Act.put, List.setIfInBounds_toArray, List.set_cons_zero, List.set_cons_succ, Nat.reduceAdd]
                refine kept_val _ (fun _ => rfl) (fun ρ w hw => by go_simp; first | done | with_reducible rfl) ?_
                simp only [Act.put, List.setIfInBounds_toArray, List.set_cons_zero, List.set_cons_succ, Nat.reduceAdd]
                refine kept_val _ (fun _ => rfl) (fun ρ w hw => by go_simp; first | done | with_reducible rfl) ?_
                simp only [Act.put, List.setIfInBounds_toArray, List.set_cons_zero, List.set_cons_succ, Nat.reduceAdd]
                refine kept_val _ (fun _ => rfl) (fun ρ w hw => by go_simp; first | done | with_reducible rfl) ?_
                simp only [Act.put, List.setIfInBounds_toArray, List.set_cons_zero, List.set_cons_succ, Nat.reduceAdd]
                refine kept_val _ (fun _ => rfl) (fun ρ w hw => by go_simp; first | done | with_reducible rfl) ?_
                simp only [Act.put, List.setIfInBounds_toArray, List.set_cons_zero, List.set_cons_succ, Nat.reduceAdd]
                refine kept_val _ (fun _ => rfl) (fun ρ w hw => by have q0 := (y3.below hw).c 2; go_simp; first | done | with_reducible rfl) ?_
                simp only [Act.put, List.setIfInBounds_toArray, List.set_cons_zero, List.set_cons_succ, Nat.reduceAdd]
                refine kept_val _ (fun _ => rfl) (fun ρ w hw => by go_simp; first | done | with_reducible rfl) ?_
                simp only [Act.put, List.setIfInBounds_toArray, List.set_cons_zero, List.set_cons_succ, Nat.reduceAdd]
                refine kept_val _ (fun _ => rfl) (fun ρ w hw => by go_simp; first | done | with_reducible rfl) ?_
                simp only [Act.put, List.setIfInBounds_toArray, List.set_cons_zero, List.set_cons_succ, Nat.reduceAdd]
                refine kept_val _ (fun _ => rfl) (fun ρ w hw => by have q0 := (y4.below hw).c 2; go_simp; first | done | with_reducible rfl) ?_
                simp only [Act.put, List.setIfInBounds_toArray, List.set_cons_zero, List.set_cons_succ, Nat.reduceAdd]
                refine kept_val _ (fun _ => rfl) (fun ρ w hw => by go_simp; first | done | with_reducible rfl) ?_
                simp only [Act.put, List.setIfInBounds_toArray, List.set_cons_zero, List.set_cons_succ, Nat.reduceAdd]
                refine kept_val _ (fun _ => rfl) (fun ρ w hw => by go_simp; first | done | with_reducible rfl) ?_
                simp only [Act.put, List.setIfInBounds_toArray, List.set_cons_zero, List.set_cons_succ, Nat.reduceAdd]
                refine kept_end (fun ρ w43 hF => ?_)
                replace x1 := x1.below hF.below
                replace y3 := y3.below hF.below
                replace y4 := y4.below hF.below
                replace hb := bto hb hF.below
                clear hF
                clear t1 t2 t3 t4
                go_wp2
                go_roundw
                case rel => exact ⟨3, by decide, by decide, by first | rfl | go_num, hb, x1, y3, y4⟩
                case measure => first | (simp [intOf]; done) | (simp [intOf]; omega)
              · have t2 : (L 2 != L 5) = false := by simp [bne, t1]
                go_wp2_with fail
                refine wp_region_kept (by kernel_rfl) (by kernel_rfl) ?_
                refine kept_val _ (fun _ => rfl) (fun ρ w hw => by go_simp; first | done | with_reducible rfl) ?_
                simp only [Act.put, List.setIfInBounds_toArray, List.set_cons_zero, List.set_cons_succ, Nat.reduceAdd]
                refine kept_val _ (fun _ => rfl) (fun ρ w hw => by go_simp; first | done | with_reducible rfl) ?_
                simp only [Act.put, List.setIfInBounds_toArray, List.set_cons_zero, List.set_cons_succ, Nat.reduceAdd]
                refine kept_val _ (fun _ => rfl) (fun ρ w hw => by have q0 := (y3.below hw).c 2; go_simp; first | done | with_reducible rfl) ?_
                simp only [Act.put, List.setIfInBounds_toArray, List.set_cons_zero, List.set_cons_succ, Nat.reduceAdd]
                refine kept_val _ (fun _ => rfl) (fun ρ w hw => by go_simp; first | done | with_reducible rfl) ?_
                simp only [Act.put, List.setIfInBounds_toArray, List.set_cons_zero, List.set_cons_succ, Nat.reduceAdd]
                refine kept_val _ (fun _ => rfl) (fun ρ w hw => by go_simp; first | done | with_reducible rfl) ?_
                simp only [Act.put, List.setIfInBounds_toArray, List.set_cons_zero, List.set_cons_succ, Nat.reduceAdd]
                refine kept_val _ (fun _ => rfl) (fun ρ w hw => by go_simp; first | done | with_reducible rfl) ?_
                simp only [Act.put, List.setIfInBounds_toArray, List.set_cons_zero, List.set_cons_succ, Nat.reduceAdd]
                refine kept_off (fun _ => rfl) ?_
                simp only [Act.put, List.setIfInBounds_toArray, List.set_cons_zero, List.set_cons_succ, Nat.reduceAdd]
                refine kept_off (fun _ => rfl) ?_
                simp only [Act.put, List.setIfInBounds_toArray, List.set_cons_zero, List.set_cons_succ, Nat.reduceAdd]
                refine kept_off (fun _ => rfl) ?_
                simp only [Act.put, List.setIfInBounds_toArray, List.set_cons_zero, List.set_cons_succ, Nat.reduceAdd]
                refine kept_off (fun _ => rfl) ?_
                simp only [Act.put, List.setIfInBounds_toArray, List.set_cons_zero, List.set_cons_succ, Nat.reduceAdd]
                refine kept_off (fun _ => rfl) ?_
                simp only [Act.put, List.setIfInBounds_toArray, List.set_cons_zero, List.set_cons_succ, Nat.reduceAdd]
                refine kept_val _ (fun _ => rfl) (fun ρ w hw => by go_simp; first | done | with_reducible rfl) ?_
                simp only [Act.put, List.setIfInBounds_toArray, List.set_cons_zero, List.set_cons_succ, Nat.reduceAdd]
                refine kept_val _ (fun _ => rfl) (fun ρ w hw => by go_simp; first | done | with_reducible rfl) ?_
                simp only [Act.put, List.setIfInBounds_toArray, List.set_cons_zero, List.set_cons_succ, Nat.reduceAdd]
                refine kept_val _ (fun _ => rfl) (fun ρ w hw => by go_simp; first | done | with_reducible rfl) ?_
                simp only [Act.put, List.setIfInBounds_toArray, List.set_cons_zero, List.set_cons_succ, Nat.reduceAdd]
                refine kept_val _ (fun _ => rfl) (fun ρ w hw => by go_simp; first | done | with_reducible rfl) ?_
                simp only [Act.put, List.setIfInBounds_toArray, List.set_cons_zero, List.set_cons_succ, Nat.reduceAdd]
                refine kept_val _ (fun _ => rfl) (fun ρ w hw => by have q0 := (y3.below hw).c 2; go_simp; first | done | with_reducible rfl) ?_
                simp only [Act.put, List.setIfInBounds_toArray, List.set_cons_zero, List.set_cons_succ, Nat.reduceAdd]
                refine kept_val _ (fun _ => rfl) (fun ρ w hw => by go_simp; first | done | with_reducible rfl) ?_
                simp only [Act.put, List.setIfInBounds_toArray, List.set_cons_zero, List.set_cons_succ, Nat.reduceAdd]
                refine kept_val _ (fun _ => rfl) (fun ρ w hw => by go_simp; first | done | with_reducible rfl) ?_
                simp only [Act.put, List.setIfInBounds_toArray, List.set_cons_zero, List.set_cons_succ, Nat.reduceAdd]
                refine kept_val _ (fun _ => rfl) (fun ρ w hw => by have q0 := (y4.below hw).c 2; go_simp; first | done | with_reducible rfl) ?_
                simp only [Act.put, List.setIfInBounds_toArray, List.set_cons_zero, List.set_cons_succ, Nat.reduceAdd]
                refine kept_val _ (fun _ => rfl) (fun ρ w hw => by go_simp; first | done | with_reducible rfl) ?_
                simp only [Act.put, List.setIfInBounds_toArray, List.set_cons_zero, List.set_cons_succ, Nat.reduceAdd]
                refine kept_val _ (fun _ => rfl) (fun ρ w hw => by go_simp; first | done | with_reducible rfl) ?_
                simp only [Act.put, List.setIfInBounds_toArray, List.set_cons_zero, List.set_cons_succ, Nat.reduceAdd]
                refine kept_end (fun ρ w43 hF => ?_)
                replace x1 := x1.below hF.below
                replace y3 := y3.below hF.below
                replace y4 := y4.below hF.below
                replace hb := bto hb hF.below
                clear hF
                clear t1 t2
                go_wp2
                go_roundw
                case rel => exact ⟨3, by decide, by decide, by first | rfl | go_num, hb, x1, y3, y4⟩
                case measure => first | (simp [intOf]; done) | (simp [intOf]; omega)
            · cases t1 : (L 3 == L 5)
              · have t2 : (L 3 != L 5) = true := by simp [bne, t1]
                have h6' : L 3 = L 6 := hone.resolve_left (fun h => by rw [h] at t1; simp at t1)
                have t3 : (L 3 == L 6) = true := by rw [beq_iff_eq]; exact h6'
                have t4 : (L 3 != L 6) = false := by simp [bne, t3]
                clear h6'
                go_wp2_with fail
                refine wp_region_kept (by kernel_rfl) (by kernel_rfl) ?_
                refine kept_val _ (fun _ => rfl) (fun ρ w hw => by go_simp; first | done | with_reducible rfl) ?_
                simp only [Act.put, List.setIfInBounds_toArray, List.set_cons_zero, List.set_cons_succ, Nat.reduceAdd]
                refine kept_val _ (fun _ => rfl) (fun ρ w hw => by go_simp; first | done | with_reducible rfl) ?_
                simp only [Act.put, List.setIfInBounds_toArray, List.set_cons_zero, List.set_cons_succ, Nat.reduceAdd]
                refine kept_val _ (fun _ => rfl) (fun ρ w hw => by have q0 := (y3.below hw).c 3; go_simp; first | done | with_reducible rfl) ?_
                simp only [Act.put, List.setIfInBounds_toArray, List.set_cons_zero, List.set_cons_succ, Nat.reduceAdd]
                refine kept_val _ (fun _ => rfl) (fun ρ w hw => by go_simp; first | done | with_reducible rfl) ?_
                simp only [Act.put, List.setIfInBounds_toArray, List.set_cons_zero, List.set_cons_succ, Nat.reduceAdd]
                refine kept_val _ (fun _ => rfl) (fun ρ w hw => by go_simp; first | done | with_reducible rfl) ?_
                simp only [Act.put, List.setIfInBounds_toArray, List.set_cons_zero, List.set_cons_succ, Nat.reduceAdd]
                refine kept_val _ (fun _ => rfl) (fun ρ w hw => by go_simp; first | done | with_reducible rfl) ?_
                simp only [Act.put, List.setIfInBounds_toArray, List.set_cons_zero, List.set_cons_succ, Nat.reduceAdd]
                refine kept_val _ (fun _ => rfl) (fun ρ w hw => by go_simp; first | done | with_reducible rfl) ?_
                simp only [Act.put, List.setIfInBounds_toArray, List.set_cons_zero, List.set_cons_succ, Nat.reduceAdd]
                refine kept_val _ (fun _ => rfl) (fun ρ w hw => by go_simp; first | done | with_reducible rfl) ?_
                simp only [Act.put, List.setIfInBounds_toArray, List.set_cons_zero, List.set_cons_succ, Nat.reduceAdd]
                refine kept_val _ (fun _ => rfl) (fun ρ w hw => by have q0 := (y3.below hw).c 3; go_simp; first | done | with_reducible rfl) ?_
                simp only [Act.put, List.setIfInBounds_toArray, List.set_cons_zero, List.set_cons_succ, Nat.reduceAdd]
                refine kept_val _ (fun _ => rfl) (fun ρ w hw => by go_simp; first | done | with_reducible rfl) ?_
                simp only [Act.put, List.setIfInBounds_toArray, List.set_cons_zero, List.set_cons_succ, Nat.reduceAdd]
                refine kept_val _ (fun _ => rfl) (fun ρ w hw => by go_simp; first | done | with_reducible rfl) ?_
                simp only [Act.put, List.setIfInBounds_toArray, List.set_cons_zero, List.set_cons_succ, Nat.reduceAdd]
                refine kept_val _ (fun _ => rfl) (fun ρ w hw => by go_simp; first | done | with_reducible rfl) ?_
                simp only [Act.put, List.setIfInBounds_toArray, List.set_cons_zero, List.set_cons_succ, Nat.reduceAdd]
                refine kept_val _ (fun _ => rfl) (fun ρ w hw => by go_simp; first | done | with_reducible rfl) ?_
                simp only [Act.put, List.setIfInBounds_toArray, List.set_cons_zero, List.set_cons_succ, Nat.reduceAdd]
                refine kept_val _ (fun _ => rfl) (fun ρ w hw => by go_simp; first | done | with_reducible rfl) ?_
                simp only [Act.put, List.setIfInBounds_toArray, List.set_cons_zero, List.set_cons_succ, Nat.reduceAdd]
                refine kept_val _ (fun _ => rfl) (fun ρ w hw => by go_simp; first | done | with_reducible rfl) ?_
                simp only [Act.put, List.setIfInBounds_toArray, List.set_cons_zero, List.set_cons_succ, Nat.reduceAdd]
                refine kept_val _ (fun _ => rfl) (fun ρ w hw => by have q0 := (y3.below hw).c 3; go_simp; first | done | with_reducible rfl) ?_
                simp only [Act.put, List.setIfInBounds_toArray, List.set_cons_zero, List.set_cons_succ, Nat.reduceAdd]
                refine kept_val _ (fun _ => rfl) (fun ρ w hw => by go_simp; first | done | with_reducible rfl) ?_
                simp only [Act.put, List.setIfInBounds_toArray, List.set_cons_zero, List.set_cons_succ, Nat.reduceAdd]
                refine kept_val _ (fun _ => rfl) (fun ρ w hw => by go_simp; first | done | with_reducible rfl) ?_
                simp only [Act.put, List.setIfInBounds_toArray, List.set_cons_zero, List.set_cons_succ, Nat.reduceAdd]
                refine kept_val _ (fun _ => rfl) (fun ρ w hw => by have q0 := (y4.below hw).c 3; go_simp; first | done | with_reducible rfl) ?_
                simp only [Act.put, List.setIfInBounds_toArray, List.set_cons_zero, List.set_cons_succ, Nat.reduceAdd]
                refine kept_val _ (fun _ => rfl) (fun ρ w hw => by go_simp; first | done | with_reducible rfl) ?_
                simp only [Act.put, List.setIfInBounds_toArray, List.set_cons_zero, List.set_cons_succ, Nat.reduceAdd]
                refine kept_val _ (fun _ => rfl) (fun ρ w hw => by go_simp; first | done | with_reducible rfl) ?_
                simp only [Act.put, List.setIfInBounds_toArray, List.set_cons_zero, List.set_cons_succ, Nat.reduceAdd]
                refine kept_end (fun ρ w43 hF => ?_)
                replace x1 := x1.below hF.below
                replace y3 := y3.below hF.below
                replace y4 := y4.below hF.below
                replace hb := bto hb hF.below
                clear hF
                clear t1 t2 t3 t4
                go_wp2
                go_roundw
                case rel => exact ⟨4, by decide, by decide, by first | rfl | go_num, hb, x1, y3, y4⟩
                case measure => first | (simp [intOf]; done) | (simp [intOf]; omega)
              · have t2 : (L 3 != L 5) = false := by simp [bne, t1]
                go_wp2_with fail
                refine wp_region_kept (by kernel_rfl) (by kernel_rfl) ?_
                refine kept_val _ (fun _ => rfl) (fun ρ w hw => by go_simp; first | done | with_reducible rfl) ?_
                simp only [Act.put, List.setIfInBounds_toArray, List.set_cons_zero, List.set_cons_succ, Nat.reduceAdd]
                refine kept_val _ (fun _ => rfl) (fun ρ w hw => by go_simp; first | done | with_reducible rfl) ?_
                simp only [Act.put, List.setIfInBounds_toArray, List.set_cons_zero, List.set_cons_succ, Nat.reduceAdd]
                refine kept_val _ (fun _ => rfl) (fun ρ w hw => by have q0 := (y3.below hw).c 3; go_simp; first | done | with_reducible rfl) ?_
                simp only [Act.put, List.setIfInBounds_toArray, List.set_cons_zero, List.set_cons_succ, Nat.reduceAdd]
                refine kept_val _ (fun _ => rfl) (fun ρ w hw => by go_simp; first | done | with_reducible rfl) ?_
                simp only [Act.put, List.setIfInBounds_toArray, List.set_cons_zero, List.set_cons_succ, Nat.reduceAdd]
                refine kept_val _ (fun _ => rfl) (fun ρ w hw => by go_simp; first | done | with_reducible rfl) ?_
                simp only [Act.put, List.setIfInBounds_toArray, List.set_cons_zero, List.set_cons_succ, Nat.reduceAdd]
                refine kept_val _ (fun _ => rfl) (fun ρ w hw => by go_simp; first | done | with_reducible rfl) ?_
                simp only [Act.put, List.setIfInBounds_toArray, List.set_cons_zero, List.set_cons_succ, Nat.reduceAdd]
                refine kept_off (fun _ => rfl) ?_
                simp only [Act.put, List.setIfInBounds_toArray, List.set_cons_zero, List.set_cons_succ, Nat.reduceAdd]
                refine kept_off (fun _ => rfl) ?_
                simp only [Act.put, List.setIfInBounds_toArray, List.set_cons_zero, List.set_cons_succ, Nat.reduceAdd]
                refine kept_off (fun _ => rfl) ?_
                simp only [Act.put, List.setIfInBounds_toArray, List.set_cons_zero, List.set_cons_succ, Nat.reduceAdd]
                refine kept_off (fun _ => rfl) ?_
                simp only [Act.put, List.setIfInBounds_toArray, List.set_cons_zero, List.set_cons_succ, Nat.reduceAdd]
                refine kept_off (fun _ => rfl) ?_
                simp only [Act.put, List.setIfInBounds_toArray, List.set_cons_zero, List.set_cons_succ, Nat.reduceAdd]
                refine kept_val _ (fun _ => rfl) (fun ρ w hw => by go_simp; first | done | with_reducible rfl) ?_
                simp only [Act.put, List.setIfInBounds_toArray, List.set_cons_zero, List.set_cons_succ, Nat.reduceAdd]
                refine kept_val _ (fun _ => rfl) (fun ρ w hw => by go_simp; first | done | with_reducible rfl) ?_
                simp only [Act.put, List.setIfInBounds_toArray, List.set_cons_zero, List.set_cons_succ, Nat.reduceAdd]
                refine kept_val _ (fun _ => rfl) (fun ρ w hw => by go_simp; first | done | with_reducible rfl) ?_
                simp only [Act.put, List.setIfInBounds_toArray, List.set_cons_zero, List.set_cons_succ, Nat.reduceAdd]
                refine kept_val _ (fun _ => rfl) (fun ρ w hw => by go_simp; first | done | with_reducible rfl) ?_
                simp only [Act.put, List.setIfInBounds_toArray, List.set_cons_zero, List.set_cons_succ, Nat.reduceAdd]
                refine kept_val _ (fun _ => rfl) (fun ρ w hw => by have q0 := (y3.below hw).c 3; go_simp; first | done | with_reducible rfl) ?_
                simp only [Act.put, List.setIfInBounds_toArray, List.set_cons_zero, List.set_cons_succ, Nat.reduceAdd]
                refine kept_val _ (fun _ => rfl) (fun ρ w hw => by go_simp; first | done | with_reducible rfl) ?_
                simp only [Act.put, List.setIfInBounds_toArray, List.set_cons_zero, List.set_cons_succ, Nat.reduceAdd]
                refine kept_val _ (fun _ => rfl) (fun ρ w hw => by go_simp; first | done | with_reducible rfl) ?_
                simp only [Act.put, List.setIfInBounds_toArray, List.set_cons_zero, List.set_cons_succ, Nat.reduceAdd]
                refine kept_val _ (fun _ => rfl) (fun ρ w hw => by have q0 := (y4.below hw).c 3; go_simp; first | done | with_reducible rfl) ?_
                simp only [Act.put, List.setIfInBounds_toArray, List.set_cons_zero, List.set_cons_succ, Nat.reduceAdd]
                refine kept_val _ (fun _ => rfl) (fun ρ w hw => by go_simp; first | done | with_reducible rfl) ?_
                simp only [Act.put, List.setIfInBounds_toArray, List.set_cons_zero, List.set_cons_succ, Nat.reduceAdd]
                refine kept_val _ (fun _ => rfl) (fun ρ w hw => by go_simp; first | done | with_reducible rfl) ?_
                simp only [Act.put, List.setIfInBounds_toArray, List.set_cons_zero, List.set_cons_succ, Nat.reduceAdd]
                refine kept_end (fun ρ w43 hF => ?_)
                replace x1 := x1.below hF.below
                replace y3 := y3.below hF.below
                replace y4 := y4.below hF.below
                replace hb := bto hb hF.below
                clear hF
                clear t1 t2
                go_wp2
                go_roundw
                case rel => exact ⟨4, by decide, by decide, by first | rfl | go_num, hb, x1, y3, y4⟩
                case measure => first | (simp [intOf]; done) | (simp [intOf]; omega)
            · cases t1 : (L 4 == L 5)
              · have t2 : (L 4 != L 5) = true := by simp [bne, t1]
                have h6' : L 4 = L 6 := hone.resolve_left (fun h => by rw [h] at t1; simp at t1)
                have t3 : (L 4 == L 6) = true := by rw [beq_iff_eq]; exact h6'
                have t4 : (L 4 != L 6) = false := by simp [bne, t3]
                clear h6'
                go_wp2_with fail
                refine wp_region_kept (by kernel_rfl) (by kernel_rfl) ?_
                refine kept_val _ (fun _ => rfl) (fun ρ w hw => by go_simp; first | done | with_reducible rfl) ?_
                simp only [Act.put, List.setIfInBounds_toArray, List.set_cons_zero, List.set_cons_succ, Nat.reduceAdd]
                refine kept_val _ (fun _ => rfl) (fun ρ w hw => by go_simp; first | done | with_reducible rfl) ?_
                simp only [Act.put, List.setIfInBounds_toArray, List.set_cons_zero, List.set_cons_succ, Nat.reduceAdd]
                refine kept_val _ (fun _ => rfl) (fun ρ w hw => by have q0 := (y3.below hw).c 4; go_simp; first | done | with_reducible rfl) ?_
                simp only [Act.put, List.setIfInBounds_toArray, List.set_cons_zero, List.set_cons_succ, Nat.reduceAdd]
                refine kept_val _ (fun _ => rfl) (fun ρ w hw => by go_simp; first | done | with_reducible rfl) ?_
                simp only [Act.put, List.setIfInBounds_toArray, List.set_cons_zero, List.set_cons_succ, Nat.reduceAdd]
                refine kept_val _ (fun _ => rfl) (fun ρ w hw => by go_simp; first | done | with_reducible rfl) ?_
                simp only [Act.put, List.setIfInBounds_toArray, List.set_cons_zero, List.set_cons_succ, Nat.reduceAdd]
                refine kept_val _ (fun _ => rfl) (fun ρ w hw => by go_simp; first | done | with_reducible rfl) ?_
                simp only [Act.put, List.setIfInBounds_toArray, List.set_cons_zero, List.set_cons_succ, Nat.reduceAdd]
                refine kept_val _ (fun _ => rfl) (fun ρ w hw => by go_simp; first | done | with_reducible rfl) ?_
                simp only [Act.put, List.setIfInBounds_toArray, List.set_cons_zero, List.set_cons_succ, Nat.reduceAdd]
                refine kept_val _ (fun _ => rfl) (fun ρ w hw => by go_simp; first | done | with_reducible rfl) ?_
                simp only [Act.put, List.setIfInBounds_toArray, List.set_cons_zero, List.set_cons_succ, Nat.reduceAdd]
                refine kept_val _ (fun _ => rfl) (fun ρ w hw => by have q0 := (y3.below hw).c 4; go_simp; first | done | with_reducible rfl) ?_
                simp only [Act.put, List.setIfInBounds_toArray, List.set_cons_zero, List.set_cons_succ, Nat.reduceAdd]
                refine kept_val _ (fun _ => rfl) (fun ρ w hw => by go_simp; first | done | with_reducible rfl) ?_
                simp only [Act.put, List.setIfInBounds_toArray, List.set_cons_zero, List.set_cons_succ, Nat.reduceAdd]
                refine kept_val _ (fun _ => rfl) (fun ρ w hw => by go_simp; first | done | with_reducible rfl) ?_
                simp only [Act.put, List.setIfInBounds_toArray, List.set_cons_zero, List.set_cons_succ, Nat.reduceAdd]
                refine kept_val _ (fun _ => rfl) (fun ρ w hw => by go_simp; first | done | with_reducible rfl) ?_
                simp only [Act.put, List.setIfInBounds_toArray, List.set_cons_zero, List.set_cons_succ, Nat.reduceAdd]
                refine kept_val _ (fun _ => rfl) (fun ρ w hw => by go_simp; first | done | with_reducible rfl) ?_
                simp only [Act.put, List.setIfInBounds_toArray, List.set_cons_zero, List.set_cons_succ, Nat.reduceAdd]
                refine kept_val _ (fun _ => rfl) (fun ρ w hw => by go_simp; first | done | with_reducible rfl) ?_
                simp only [Act.put, List.setIfInBounds_toArray, List.set_cons_zero, List.set_cons_succ, Nat.reduceAdd]
                refine kept_val _ (fun _ => rfl) (fun ρ w hw => by go_simp; first | done | with_reducible rfl) ?_
                simp only [Act.put, List.setIfInBounds_toArray, List.set_cons_zero, List.set_cons_succ, Nat.reduceAdd]
                refine kept_val _ (fun _ => rfl) (fun ρ w hw => by have q0 := (y3.below hw).c 4; go_simp; first | done | with_reducible rfl) ?_
                simp only [Act.put, List.setIfInBounds_toArray, List.set_cons_zero, List.set_cons_succ, Nat.reduceAdd]
                refine kept_val _ (fun _ => rfl) (fun ρ w hw => by go_simp; first | done | with_reducible rfl) ?_
                simp only [Act.put, List.setIfInBounds_toArray, List.set_cons_zero, List.set_cons_succ, Nat.reduceAdd]
                refine kept_val _ (fun _ => rfl) (fun ρ w hw => by go_simp; first | done | with_reducible rfl) ?_
                simp only [Act.put, List.setIfInBounds_toArray, List.set_cons_zero, List.set_cons_succ, Nat.reduceAdd]
                refine kept_val _ (fun _ => rfl) (fun ρ w hw => by have q0 := (y4.below hw).c 4; go_simp; first | done | with_reducible rfl) ?_
                simp only [Act.put, List.setIfInBounds_toArray, List.set_cons_zero, List.set_cons_succ, Nat.reduceAdd]
                refine kept_val _ (fun _ => rfl) (fun ρ w hw => by go_simp; first | done | with_reducible rfl) ?_
                simp only [Act.put, List.setIfInBounds_toArray, List.set_cons_zero, List.set_cons_succ, Nat.reduceAdd]
                refine kept_val _ (fun _ => rfl) (fun ρ w hw => by go_simp; first | done | with_reducible rfl) ?_
                simp only [Act.put, List.setIfInBounds_toArray, List.set_cons_zero, List.set_cons_succ, Nat.reduceAdd]
                refine kept_end (fun ρ w43 hF => ?_)
                replace x1 := x1.below hF.below
                replace y3 := y3.below hF.below
                replace y4 := y4.below hF.below
                replace hb := bto hb hF.below
                clear hF
                clear t1 t2 t3 t4
                go_wp2
                go_roundw
                case rel => exact ⟨5, by decide, by decide, by first | rfl | go_num, hb, x1, y3, y4⟩
                case measure => first | (simp [intOf]; done) | (simp [intOf]; omega)
              · have t2 : (L 4 != L 5) = false := by simp [bne, t1]
                go_wp2_with fail
                refine wp_region_kept (by kernel_rfl) (by kernel_rfl) ?_
                refine kept_val _ (fun _ => rfl) (fun ρ w hw => by go_simp; first | done | with_reducible rfl) ?_
                simp only [Act.put, List.setIfInBounds_toArray, List.set_cons_zero, List.set_cons_succ, Nat.reduceAdd]
                refine kept_val _ (fun _ => rfl) (fun ρ w hw => by go_simp; first | done | with_reducible rfl) ?_
                simp only [Act.put, List.setIfInBounds_toArray, List.set_cons_zero, List.set_cons_succ, Nat.reduceAdd]
                refine kept_val _ (fun _ => rfl) (fun ρ w hw => by have q0 := (y3.below hw).c 4; go_simp; first | done | with_reducible rfl) ?_
                simp only [Act.put, List.setIfInBounds_toArray, List.set_cons_zero, List.set_cons_succ, Nat.reduceAdd]
                refine kept_val _ (fun _ => rfl) (fun ρ w hw => by go_simp; first | done | with_reducible rfl) ?_
                simp only [Act.put, List.setIfInBounds_toArray, List.set_cons_zero, List.set_cons_succ, Nat.reduceAdd]
                refine kept_val _ (fun _ => rfl) (fun ρ w hw => by go_simp; first | done | with_reducible rfl) ?_
                simp only [Act.put, List.setIfInBounds_toArray, List.set_cons_zero, List.set_cons_succ, Nat.reduceAdd]
                refine kept_val _ (fun _ => rfl) (fun ρ w hw => by go_simp; first | done | with_reducible rfl) ?_
                simp only [Act.put, List.setIfInBounds_toArray, List.set_cons_zero, List.set_cons_succ, Nat.reduceAdd]
                refine kept_off (fun _ => rfl) ?_
                simp only [Act.put, List.setIfInBounds_toArray, List.set_cons_zero, List.set_cons_succ, Nat.reduceAdd]
                refine kept_off (fun _ => rfl) ?_
                simp only [Act.put, List.setIfInBounds_toArray, List.set_cons_zero, List.set_cons_succ, Nat.reduceAdd]
                refine kept_off (fun _ => rfl) ?_
                simp only [Act.put, List.setIfInBounds_toArray, List.set_cons_zero, List.set_cons_succ, Nat.reduceAdd]
                refine kept_off (fun _ => rfl) ?_
                simp only [Act.put, List.setIfInBounds_toArray, List.set_cons_zero, List.set_cons_succ, Nat.reduceAdd]
                refine kept_off (fun _ => rfl) ?_
                simp only [Act.put, List.setIfInBounds_toArray, List.set_cons_zero, List.set_cons_succ, Nat.reduceAdd]
                refine kept_val _ (fun _ => rfl) (fun ρ w hw => by go_simp; first | done | with_reducible rfl) ?_
                simp only [Act.put, List.setIfInBounds_toArray, List.set_cons_zero, List.set_cons_succ, Nat.reduceAdd]
                refine kept_val _ (fun _ => rfl) (fun ρ w hw => by go_simp; first | done | with_reducible rfl) ?_
                simp only [Act.put, List.setIfInBounds_toArray, List.set_cons_zero, List.set_cons_succ, Nat.reduceAdd]
                refine kept_val _ (fun _ => rfl) (fun ρ w hw => by go_simp; first | done | with_reducible rfl) ?_
                simp only [Act.put, List.setIfInBounds_toArray, List.set_cons_zero, List.set_cons_succ, Nat.reduceAdd]
                refine kept_val _ (fun _ => rfl) (fun ρ w hw => by go_simp; first | done | with_reducible rfl) ?_
                simp only [Act.put, List.setIfInBounds_toArray, List.set_cons_zero, List.set_cons_succ, Nat.reduceAdd]
                refine kept_val _ (fun _ => rfl) (fun ρ w hw => by have q0 := (y3.below hw).c 4; go_simp; first | done | with_reducible rfl) ?_
                simp only [Act.put, List.setIfInBounds_toArray, List.set_cons_zero, List.set_cons_succ, Nat.reduceAdd]
                refine kept_val _ (fun _ => rfl) (fun ρ w hw => by go_simp; first | done | with_reducible rfl) ?_
                simp only [Act.put, List.setIfInBounds_toArray, List.set_cons_zero, List.set_cons_succ, Nat.reduceAdd]
                refine kept_val _ (fun _ => rfl) (fun ρ w hw => by go_simp; first | done | with_reducible rfl) ?_
                simp only [Act.put, List.setIfInBounds_toArray, List.set_cons_zero, List.set_cons_succ, Nat.reduceAdd]
                refine kept_val _ (fun _ => rfl) (fun ρ w hw => by have q0 := (y4.below hw).c 4; go_simp; first | done | with_reducible rfl) ?_
                simp only [Act.put, List.setIfInBounds_toArray, List.set_cons_zero, List.set_cons_succ, Nat.reduceAdd]
                refine kept_val _ (fun _ => rfl) (fun ρ w hw => by go_simp; first | done | with_reducible rfl) ?_
                simp only [Act.put, List.setIfInBounds_toArray, List.set_cons_zero, List.set_cons_succ, Nat.reduceAdd]
                refine kept_val _ (fun _ => rfl) (fun ρ w hw => by go_simp; first | done | with_reducible rfl) ?_
                simp only [Act.put, List.setIfInBounds_toArray, List.set_cons_zero, List.set_cons_succ, Nat.reduceAdd]
                refine kept_end (fun ρ w43 hF => ?_)
                replace x1 := x1.below hF.below
                replace y3 := y3.below hF.below
                replace y4 := y4.below hF.below
                replace hb := bto hb hF.below
                clear hF
                clear t1 t2
                go_wp2
                go_roundw
                case rel => exact ⟨5, by decide, by decide, by first | rfl | go_num, hb, x1, y3, y4⟩
                case measure => first | (simp [intOf]; done) | (simp [intOf]; omega)
          · have e4 : decide (m ≤ 4) = false := decide_eq_false h4
            clear h1 h5
            go_wp2_with fail
            refine wp_region_kept (by kernel_rfl) (by kernel_rfl) ?_
            refine kept_val _ (fun _ => rfl) (fun ρ w hw => by go_simp; first | done | with_reducible rfl) ?_
            simp only [Act.put, List.setIfInBounds_toArray, List.set_cons_zero, List.set_cons_succ, Nat.reduceAdd]
            refine kept_val _ (fun _ => rfl) (fun ρ w hw => by have q0 := (y3.below hw).c 3; go_simp; first | done | with_reducible rfl) ?_
            simp only [Act.put, List.setIfInBounds_toArray, List.set_cons_zero, List.set_cons_succ, Nat.reduceAdd]
            refine kept_val _ (fun _ => rfl) (fun ρ w hw => by go_simp; first | done | with_reducible rfl) ?_
            simp only [Act.put, List.setIfInBounds_toArray, List.set_cons_zero, List.set_cons_succ, Nat.reduceAdd]
            refine kept_val _ (fun _ => rfl) (fun ρ w hw => by have q0 := (y3.below hw).c 4; go_simp; first | done | with_reducible rfl) ?_
            simp only [Act.put, List.setIfInBounds_toArray, List.set_cons_zero, List.set_cons_succ, Nat.reduceAdd]
            refine kept_val _ (fun _ => rfl) (fun ρ w hw => by go_simp; first | done | with_reducible rfl) ?_
            simp only [Act.put, List.setIfInBounds_toArray, List.set_cons_zero, List.set_cons_succ, Nat.reduceAdd]
            refine kept_val _ (fun _ => rfl) (fun ρ w hw => by go_simp; first | done | with_reducible rfl) ?_
            simp only [Act.put, List.setIfInBounds_toArray, List.set_cons_zero, List.set_cons_succ, Nat.reduceAdd]
            refine kept_end (fun ρ w43 hF => ?_)
            replace x1 := x1.below hF.below
            replace y3 := y3.below hF.below
            replace y4 := y4.below hF.below
            replace hb := bto hb hF.below
            clear hF
            go_wp2_with fail
            refine wp_region_kept (by kernel_rfl) (by kernel_rfl) ?_
            refine kept_val _ (fun _ => rfl) (fun ρ w hw => by have q0 := (x1.below hw).c0; have q1 := (x1.below hw).c1; go_simp; first | done | with_reducible rfl) ?_
            simp only [Act.put, List.setIfInBounds_toArray, List.set_cons_zero, List.set_cons_succ, Nat.reduceAdd]
            refine kept_call _ _ _ (fun _ => rfl) (fun ρ w hw => by go_simp; first | done | with_reducible rfl) (fun w hw => R0.out.of hG (bto hb hw)) ?_
            simp only [Act.put, List.setIfInBounds_toArray, List.set_cons_zero, List.set_cons_succ, Nat.reduceAdd]
            refine kept_call _ _ _ (fun _ => rfl) (fun ρ w hw => by go_simp; first | done | with_reducible rfl) (fun w hw => CZ.out.of hG (bto hb hw)) ?_
            simp only [Act.put, List.setIfInBounds_toArray, List.set_cons_zero, List.set_cons_succ, Nat.reduceAdd]
            refine kept_val _ (fun _ => rfl) (fun ρ w hw => by go_simp; first | done | with_reducible rfl) ?_
            simp only [Act.put, List.setIfInBounds_toArray, List.set_cons_zero, List.set_cons_succ, Nat.reduceAdd]
            refine kept_end (fun ρ w44 hF => ?_)
            replace x1 := x1.below hF.below
            replace hb := bto hb hF.below
            clear hF
            clear x1
            by_cases hz : cz < 0
            · have e5 : decide (cz < 0) = true := decide_eq_true hz
              obtain ⟨g1, g2⟩ := HNG.out hz
              have t1 : (L 4 == L 5) = true := by rw [beq_iff_eq]; exact g1
              have t2 : (L 3 == L 6) = true := by rw [beq_iff_eq]; exact g2
              clear g1 g2
              go_wp2_with fail
              ((with_reducible refine (CW.out.of hG hb).mono ?_); rintro e w45 ⟨rfl, hb45⟩)
              replace hb := bto hb hb45
              clear hb45
              go_wp2
              go_ret
              exact ⟨rfl, hb⟩
            · have e5 : decide (cz < 0) = false := decide_eq_false hz
              obtain ⟨g1, g2⟩ := HPS.out (by omega)
              have t1 : (L 3 == L 5) = true := by rw [beq_iff_eq]; exact g1
              have t2 : (L 4 == L 6) = true := by rw [beq_iff_eq]; exact g2
              clear g1 g2
              go_wp2_with fail
              ((with_reducible refine (CW.out.of hG hb).mono ?_); rintro e w45 ⟨rfl, hb45⟩)
              replace hb := bto hb hb45
              clear hb45
              go_wp2
              go_ret
              exact ⟨rfl, hb⟩
end Go.Proofs.YtmmhimgkpfcokaaGreatDoor
