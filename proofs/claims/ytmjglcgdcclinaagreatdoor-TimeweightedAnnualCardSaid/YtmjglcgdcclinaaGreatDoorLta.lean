/- TimeweightedAnnual. -/
import Derived.Test.YtmjglcgdcclinaaGreatDoorTu
import Derived.Test.YtmjglcgdcclinaaGreatDoorTj
namespace Go.Proofs.YtmjglcgdcclinaaGreatDoor
open Go.RowKit Num
set_option maxHeartbeats 2000000 in
set_option maxRecDepth 100000 in
theorem rGreatF (A : Option Addr) (fs : List Fs) (n c : Nat) (w : World) (hn : fs.length = n) (hn2 : n ≤ 9223372036854775807) (h : FsAt w A fs) :
    Calls Tryz.prog 42 #[.slice A n c] w (GEnd (fun b => b = false → ∀ t ∈ fs, t.1.length ≤ 60 ∧ t.2.length ≤ 60) w) := by
  have HI := Lib.hid h
  have HN := Lib.hid hn
  clear h hn
  go_enter Tryz.func42, Tryz.ntmps42
  go_wp2_with fail
  go_loopw [3] (fun iv wr => ∃ k : Nat, k ≤ n ∧ iv = .int .i64 (k : Int) ∧ Hid (∀ i t, i < k → fs[i]? = some t → t.1.length ≤ 60 ∧ t.2.length ≤ 60) ∧ Below w.heap.size w wr) (fun iv _ => n - (intOf iv).toNat)
  case atStart => exact ⟨0, Nat.zero_le _, rfl, fun i t hi => absurd hi (Nat.not_lt_zero _), Below.refl _ _⟩
  case round =>
    obtain ⟨k, hk, rfl, HK, hb⟩ := hrel
    by_cases hlt : k < n
    · obtain ⟨t, ht⟩ : ∃ t, fs[k]? = some t := ⟨_, List.getElem?_eq_getElem (by rw [HN.out]; omega)⟩
      obtain ⟨b, o, rfl, hbs, p0, p1⟩ := (HI.out.below hb) k t ht
      have HT := Lib.hid ht
      obtain ⟨s1, hs1⟩ : ∃ s1, s1 = t.1 := ⟨_, rfl⟩
      obtain ⟨s2, hs2⟩ : ∃ s2, s2 = t.2 := ⟨_, rfl⟩
      have H1 := Lib.hid hs1
      have H2 := Lib.hid hs2
      rw [← hs1] at p0
      rw [← hs2] at p1
      clear ht hs1 hs2
      by_cases g1 : 60 < s1.length
      · go_wp2
        go_ret
        exact gend (fun h => by cases h) hb
      by_cases g2 : 60 < s2.length
      · go_wp2
        go_ret
        exact gend (fun h => by cases h) hb
      have HK2 : Hid (∀ i t, i < k + 1 → fs[i]? = some t → t.1.length ≤ 60 ∧ t.2.length ≤ 60) := fun i x hi hx => by
        by_cases hik : i < k
        · exact HK.out i x hik hx
        · obtain rfl : i = k := by omega
          have := HT.out
          rw [hx] at this
          injection this with this
          subst this
          rw [← H1.out, ← H2.out]; omega
      clear HK HT H1 H2
      go_wp2
      go_roundw
      case rel => exact ⟨k + 1, by omega, by go_num, HK2.out, hb⟩
      case measure => simp [intOf]; omega
    · have HS : Hid (∀ t ∈ fs, t.1.length ≤ 60 ∧ t.2.length ≤ 60) := fun t ht => by
        obtain ⟨i, hi⟩ := List.mem_iff_getElem?.1 ht
        exact HK.out i t (by have := (List.getElem?_eq_some_iff.1 hi).1; rw [HN.out] at this; omega) hi
      clear HK
      go_wp2
      go_ret
      exact gend (fun _ => HS.out) hb
theorem link_gen (fs : List Fs) : ∃ (a b : List UInt8) (c : Int), linkV fs = .tuple #[(Value.agg #[Value.string ⟨List.toArray a⟩, Value.string ⟨List.toArray b⟩]), .int .i64 c] := by
  unfold linkV
  split
  · exact ⟨[], [], _, rfl⟩
  · split
    · exact ⟨_, _, _, rfl⟩
    · exact ⟨[], [], _, rfl⟩
theorem annual_gen (l l' : List UInt8) (y p : Int) (hl : l.length ≤ 60) (hl' : l'.length ≤ 60) (hy : y ≤ 8 ∨ 100 < y) : ∃ (a1 a2 b1 b2 : List UInt8) (c : Int), Ret 45 #[(Value.agg #[Value.string ⟨List.toArray l⟩, Value.string ⟨List.toArray l'⟩]), .int .i64 y, .int .i64 p] (.tuple #[(Value.agg #[Value.string ⟨List.toArray a1⟩, Value.string ⟨List.toArray a2⟩]), (Value.agg #[Value.string ⟨List.toArray b1⟩, Value.string ⟨List.toArray b2⟩]), .int .i64 c]) ∧ Ret 52 #[(Value.agg #[Value.string ⟨List.toArray l⟩, Value.string ⟨List.toArray l'⟩]), .int .i64 y, .int .i64 p] (.tuple #[(Value.agg #[Value.string ⟨List.toArray a1⟩, Value.string ⟨List.toArray a2⟩]), (Value.agg #[Value.string ⟨List.toArray b1⟩, Value.string ⟨List.toArray b2⟩]), .int .i64 c]) := by
  have form : ∀ z, ∃ (a1 a2 b1 b2 : List UInt8) (c : Int), annV l l' y p z = .tuple #[(Value.agg #[Value.string ⟨List.toArray a1⟩, Value.string ⟨List.toArray a2⟩]), (Value.agg #[Value.string ⟨List.toArray b1⟩, Value.string ⟨List.toArray b2⟩]), .int .i64 c] := fun z => by
    unfold annV
    split
    · exact ⟨[], [], [], [], _, rfl⟩
    · split
      · exact ⟨[], [], [], [], _, rfl⟩
      · exact ⟨_, _, _, _, _, rfl⟩
  by_cases hbad : ¬ (l = fN (fv l l') ∧ l' = fD (fv l l')) ∨ annBad (fv l l') y p
  · obtain ⟨a1, a2, b1, b2, c, h⟩ := form 0
    refine ⟨a1, a2, b1, b2, c, fun w hG => ?_, fun w hG => ?_⟩
    · rw [← h]; exact twAnnual_bad l l' y p 0 w hG hl hl' hbad
    · rw [← h]; exact rwAnnual_bad l l' y p 0 w hG hl hl' hbad
  · have g : l = fN (fv l l') ∧ l' = fD (fv l l') := Decidable.byContradiction (fun h => hbad (.inl h))
    have gb : ¬ annBad (fv l l') y p := fun h => hbad (.inr h)
    have h8 : y ≤ 8 ∧ 1 ≤ y ∧ ¬ fv l l' ≤ 0 := by
      unfold annBad at gb
      exact ⟨by omega, by omega, fun h => gb (.inl h)⟩
    obtain ⟨z, hz⟩ := rootA_is (f := fv l l') (by have := h8.2.2; grind) (n := y.toNat) (by omega) (u_pos p)
    obtain ⟨a1, a2, b1, b2, c, h⟩ := form z
    refine ⟨a1, a2, b1, b2, c, fun w hG => ?_, fun w hG => ?_⟩
    · rw [← h]; exact twAnnual_ok l l' y p z w hG hl hl' g gb h8.1 hz
    · rw [← h]; exact rwAnnual_ok l l' y p z w hG hl hl' g gb h8.1 hz
set_option maxHeartbeats 8000000 in
set_option maxRecDepth 100000 in
theorem annual_law (A : Option Addr) (fs : List Fs) (n c : Nat) (l l' : List UInt8) (y p : Int) (hy0 : -9223372036854775808 ≤ y) (hy1 : y ≤ 9223372036854775807) (w : World) (hG : Glob w) (hn : fs.length = n) (hnm : n ≤ 9223372036854775807) (h : FsAt w A fs) :
    Calls Tryz.prog 9 #[.slice A n c, (Value.agg #[Value.string ⟨List.toArray l⟩, Value.string ⟨List.toArray l'⟩]), .int .i64 y, .int .i64 p] w fun e w' => e = .returned (.bool true) ∧ Below w.heap.size w w' := by
  have CW := Lib.hid wAwake46
  have x5 := FBox.new w (.string ⟨l.toArray⟩) (.string ⟨l'.toArray⟩) 32
  have hb := below_alloc w (.cells #[.string ⟨l.toArray⟩, .string ⟨l'.toArray⟩] 32)
  have CF := Lib.hid (rGreatF A fs n c _ hn hnm (h.below hb))
  have HI := Lib.hid h
  have HN := Lib.hid hn
  have HY : Hid (-9223372036854775808 ≤ y ∧ y ≤ 9223372036854775807) := ⟨hy0, hy1⟩
  clear h hn hy0 hy1
  go_enter Tryz.func9, Tryz.ntmps9
  go_wp2_with fail
  refine CF.out.mono ?_
  rintro e w2 ⟨b, rfl, hq, hb2⟩
  replace x5 := x5.below hb2
  replace hb := bto hb hb2
  clear hb2 CF
  cases b
  rotate_left
  · clear hq
    go_wp2_with fail
    ((with_reducible refine (CW.out.of hG hb).mono ?_); rintro e w99 ⟨rfl, hb99⟩)
    go_wp2
    go_ret
    exact ⟨rfl, bto hb hb99⟩
  have hst := hq rfl
  clear hq
  have p0 := x5.c0
  have p1 := x5.c1
  have c0 := great_new w2 [l, l'] 1 1 32 rfl (by decide)
  simp only [List.map_cons, List.map_nil] at c0
  have C0 := Lib.hid c0
  clear c0
  have HSt := Lib.hid hst
  clear hst
  go_wp2_with fail
  refine C0.out.mono ?_
  rintro e w3 ⟨hres, hb3⟩
  replace x5 := x5.below hb3
  replace hb := bto hb hb3
  clear hb3 C0 p0 p1
  rcases hres with ⟨rfl, -⟩ | ⟨rfl, hall⟩
  · go_wp2_with fail
    ((with_reducible refine (CW.out.of hG hb).mono ?_); rintro e w99 ⟨rfl, hb99⟩)
    go_wp2
    go_ret
    exact ⟨rfl, bto hb hb99⟩
  have hl : l.length ≤ 60 := hall l (by simp)
  have hl' : l'.length ≤ 60 := hall l' (by simp)
  clear hall
  by_cases h12 : 12 < n
  · have e1 : decide (12 < n) = true := decide_eq_true h12
    by_cases h400 : n ≤ 400
    · have e2 : decide (n ≤ 400) = true := decide_eq_true h400
      go_wp2_with fail
      ((with_reducible refine (CW.out.of hG hb).mono ?_); rintro e w99 ⟨rfl, hb99⟩)
      go_wp2
      go_ret
      exact ⟨rfl, bto hb hb99⟩
    have e2 : decide (n ≤ 400) = false := decide_eq_false h400
    by_cases h403 : 403 < n
    · have e3 : decide (403 < n) = true := decide_eq_true h403
      go_wp2_with fail
      ((with_reducible refine (CW.out.of hG hb).mono ?_); rintro e w99 ⟨rfl, hb99⟩)
      go_wp2
      go_ret
      exact ⟨rfl, bto hb hb99⟩
    have e3 : decide (403 < n) = false := decide_eq_false h403
    have hgap : n ≤ 12 ∨ 400 < n := by omega
    have hsm : n ≤ 1000 := by omega
    have hG2 := hG.below hb
    have hr := Below.refl w3.heap.size w3
    have HFL : FL w3 A fs n := ⟨HN.out, hsm, hgap, HSt.out, HI.out.below hb⟩
    obtain ⟨la, lb, lc, hlk⟩ := link_gen fs
    have CL1 := Lib.hid (twLink hG2 HFL c)
    have CL2 := Lib.hid (rwLink hG2 HFL c)
    rw [hlk] at CL1 CL2
    have hhy := HY.out
    clear HFL hlk hgap hsm
    by_cases y8 : 8 < y
    · have d1 : decide (8 < y) = true := decide_eq_true y8
      by_cases y100 : y ≤ 100
      · have d2 : decide (y ≤ 100) = true := decide_eq_true y100
        obtain ⟨ky, hky⟩ : ∃ ky, ky = y % 8 + 1 := ⟨_, rfl⟩
        have HKy : Hid (y % 8 + 1 = ky) := hky.symm
        have hk8 : ky ≤ 8 := by omega
        clear hky
        obtain ⟨a1, a2, b1, b2, ac, A1, A2⟩ := annual_gen l l' (ky) p hl hl' (.inl hk8)
        have CA1 := Lib.hid A1
        have CA2 := Lib.hid A2
        clear A1 A2 hl hl' hhy
        go_wp2_with fail
        simp only [HKy.out]
        ((with_reducible refine (CL1.out.of hG2 hr).mono ?_); rintro e w5 ⟨rfl, hb5⟩)
        have hbA := below_alloc w5 (.cells #[.string ⟨(la).toArray⟩, .string ⟨(lb).toArray⟩] 32)
        have x9 := FBox.new w5 (.string ⟨(la).toArray⟩) (.string ⟨(lb).toArray⟩) 32
        have hbC := bto hb5 hbA
        replace x5 := x5.below hbC
        replace hb := bto hb hbC
        replace hr := bto hr hbC
        have hz5 := hb5.size
        (try simp only [World.size_alloc] at hz5)
        clear hb5 hbA hbC
        go_wp2_with fail
        ((with_reducible refine (CL2.out.of hG2 hr).mono ?_); rintro e w6 ⟨rfl, hb6⟩)
        have hbA := below_alloc w6 (.cells #[.string ⟨(la).toArray⟩, .string ⟨(lb).toArray⟩] 32)
        have x11 := FBox.new w6 (.string ⟨(la).toArray⟩) (.string ⟨(lb).toArray⟩) 32
        have hbC := bto hb6 hbA
        replace x5 := x5.below hbC
        replace x9 := x9.below hbC
        replace hb := bto hb hbC
        replace hr := bto hr hbC
        have hz6 := hb6.size
        (try simp only [World.size_alloc] at hz6)
        clear hb6 hbA hbC
        have q0 := x5.c0
        have q1 := x5.c1
        go_wp2_with fail
        ((with_reducible refine (CA1.out.of hG2 hr).mono ?_); rintro e w7 ⟨rfl, hb7⟩)
        have hAx13 := below_alloc w7 (.cells #[.string ⟨a1.toArray⟩, .string ⟨a2.toArray⟩] 32)
        have x13 := FBox.new w7 (.string ⟨a1.toArray⟩) (.string ⟨a2.toArray⟩) 32
        have hAx14 := below_alloc (w7.alloc (.cells #[.string ⟨a1.toArray⟩, .string ⟨a2.toArray⟩] 32)) (.cells #[.string ⟨b1.toArray⟩, .string ⟨b2.toArray⟩] 32)
        have x14 := FBox.new (w7.alloc (.cells #[.string ⟨a1.toArray⟩, .string ⟨a2.toArray⟩] 32)) (.string ⟨b1.toArray⟩) (.string ⟨b2.toArray⟩) 32
        replace x13 := x13.below hAx14
        have hbC := (bto (bto hb7 hAx13) hAx14)
        replace x5 := x5.below hbC
        replace x9 := x9.below hbC
        replace x11 := x11.below hbC
        replace hb := bto hb hbC
        replace hr := bto hr hbC
        clear q0 q1 hbC hb7 CA1 hAx13 hAx14
        (try simp only [World.size_alloc] at x13 x14)
        have q0 := x5.c0
        have q1 := x5.c1
        go_wp2_with fail
        ((with_reducible refine (CA2.out.of hG2 hr).mono ?_); rintro e w8 ⟨rfl, hb8⟩)
        have hAx16 := below_alloc w8 (.cells #[.string ⟨a1.toArray⟩, .string ⟨a2.toArray⟩] 32)
        have x16 := FBox.new w8 (.string ⟨a1.toArray⟩) (.string ⟨a2.toArray⟩) 32
        have hAx17 := below_alloc (w8.alloc (.cells #[.string ⟨a1.toArray⟩, .string ⟨a2.toArray⟩] 32)) (.cells #[.string ⟨b1.toArray⟩, .string ⟨b2.toArray⟩] 32)
        have x17 := FBox.new (w8.alloc (.cells #[.string ⟨a1.toArray⟩, .string ⟨a2.toArray⟩] 32)) (.string ⟨b1.toArray⟩) (.string ⟨b2.toArray⟩) 32
        replace x16 := x16.below hAx17
        have hbC := (bto (bto hb8 hAx16) hAx17)
        replace x5 := x5.below hbC
        replace x9 := x9.below hbC
        replace x11 := x11.below hbC
        replace x13 := x13.below hbC
        replace x14 := x14.below hbC
        replace hb := bto hb hbC
        replace hr := bto hr hbC
        clear q0 q1 hbC hb8 CA2 hAx16 hAx17
        (try simp only [World.size_alloc] at x16 x17)
        have qx90 := x9.c0
        have qx91 := x9.c1
        have qx110 := x11.c0
        have qx111 := x11.c1
        have qx130 := x13.c0
        have qx131 := x13.c1
        have qx140 := x14.c0
        have qx141 := x14.c1
        have qx160 := x16.c0
        have qx161 := x16.c1
        have qx170 := x17.c0
        have qx171 := x17.c1
        go_wp2_with fail
        ((with_reducible refine (CW.out.of hG hb).mono ?_); rintro e w99 ⟨rfl, hb99⟩)
        go_wp2
        go_ret
        exact ⟨rfl, bto hb hb99⟩
      have d2 : decide (y ≤ 100) = false := decide_eq_false y100
      obtain ⟨a1, a2, b1, b2, ac, A1, A2⟩ := annual_gen l l' (y) p hl hl' (.inr (by omega))
      have CA1 := Lib.hid A1
      have CA2 := Lib.hid A2
      clear A1 A2 hl hl' hhy
      go_wp2_with fail
      ((with_reducible refine (CL1.out.of hG2 hr).mono ?_); rintro e w5 ⟨rfl, hb5⟩)
      have hbA := below_alloc w5 (.cells #[.string ⟨(la).toArray⟩, .string ⟨(lb).toArray⟩] 32)
      have x9 := FBox.new w5 (.string ⟨(la).toArray⟩) (.string ⟨(lb).toArray⟩) 32
      have hbC := bto hb5 hbA
      replace x5 := x5.below hbC
      replace hb := bto hb hbC
      replace hr := bto hr hbC
      have hz5 := hb5.size
      (try simp only [World.size_alloc] at hz5)
      clear hb5 hbA hbC
      go_wp2_with fail
      ((with_reducible refine (CL2.out.of hG2 hr).mono ?_); rintro e w6 ⟨rfl, hb6⟩)
      have hbA := below_alloc w6 (.cells #[.string ⟨(la).toArray⟩, .string ⟨(lb).toArray⟩] 32)
      have x11 := FBox.new w6 (.string ⟨(la).toArray⟩) (.string ⟨(lb).toArray⟩) 32
      have hbC := bto hb6 hbA
      replace x5 := x5.below hbC
      replace x9 := x9.below hbC
      replace hb := bto hb hbC
      replace hr := bto hr hbC
      have hz6 := hb6.size
      (try simp only [World.size_alloc] at hz6)
      clear hb6 hbA hbC
      have q0 := x5.c0
      have q1 := x5.c1
      go_wp2_with fail
      ((with_reducible refine (CA1.out.of hG2 hr).mono ?_); rintro e w7 ⟨rfl, hb7⟩)
      have hAx13 := below_alloc w7 (.cells #[.string ⟨a1.toArray⟩, .string ⟨a2.toArray⟩] 32)
      have x13 := FBox.new w7 (.string ⟨a1.toArray⟩) (.string ⟨a2.toArray⟩) 32
      have hAx14 := below_alloc (w7.alloc (.cells #[.string ⟨a1.toArray⟩, .string ⟨a2.toArray⟩] 32)) (.cells #[.string ⟨b1.toArray⟩, .string ⟨b2.toArray⟩] 32)
      have x14 := FBox.new (w7.alloc (.cells #[.string ⟨a1.toArray⟩, .string ⟨a2.toArray⟩] 32)) (.string ⟨b1.toArray⟩) (.string ⟨b2.toArray⟩) 32
      replace x13 := x13.below hAx14
      have hbC := (bto (bto hb7 hAx13) hAx14)
      replace x5 := x5.below hbC
      replace x9 := x9.below hbC
      replace x11 := x11.below hbC
      replace hb := bto hb hbC
      replace hr := bto hr hbC
      clear q0 q1 hbC hb7 CA1 hAx13 hAx14
      (try simp only [World.size_alloc] at x13 x14)
      have q0 := x5.c0
      have q1 := x5.c1
      go_wp2_with fail
      ((with_reducible refine (CA2.out.of hG2 hr).mono ?_); rintro e w8 ⟨rfl, hb8⟩)
      have hAx16 := below_alloc w8 (.cells #[.string ⟨a1.toArray⟩, .string ⟨a2.toArray⟩] 32)
      have x16 := FBox.new w8 (.string ⟨a1.toArray⟩) (.string ⟨a2.toArray⟩) 32
      have hAx17 := below_alloc (w8.alloc (.cells #[.string ⟨a1.toArray⟩, .string ⟨a2.toArray⟩] 32)) (.cells #[.string ⟨b1.toArray⟩, .string ⟨b2.toArray⟩] 32)
      have x17 := FBox.new (w8.alloc (.cells #[.string ⟨a1.toArray⟩, .string ⟨a2.toArray⟩] 32)) (.string ⟨b1.toArray⟩) (.string ⟨b2.toArray⟩) 32
      replace x16 := x16.below hAx17
      have hbC := (bto (bto hb8 hAx16) hAx17)
      replace x5 := x5.below hbC
      replace x9 := x9.below hbC
      replace x11 := x11.below hbC
      replace x13 := x13.below hbC
      replace x14 := x14.below hbC
      replace hb := bto hb hbC
      replace hr := bto hr hbC
      clear q0 q1 hbC hb8 CA2 hAx16 hAx17
      (try simp only [World.size_alloc] at x16 x17)
      have qx90 := x9.c0
      have qx91 := x9.c1
      have qx110 := x11.c0
      have qx111 := x11.c1
      have qx130 := x13.c0
      have qx131 := x13.c1
      have qx140 := x14.c0
      have qx141 := x14.c1
      have qx160 := x16.c0
      have qx161 := x16.c1
      have qx170 := x17.c0
      have qx171 := x17.c1
      go_wp2_with fail
      ((with_reducible refine (CW.out.of hG hb).mono ?_); rintro e w99 ⟨rfl, hb99⟩)
      go_wp2
      go_ret
      exact ⟨rfl, bto hb hb99⟩
    have d1 : decide (8 < y) = false := decide_eq_false y8
    obtain ⟨a1, a2, b1, b2, ac, A1, A2⟩ := annual_gen l l' (y) p hl hl' (.inl (by omega))
    have CA1 := Lib.hid A1
    have CA2 := Lib.hid A2
    clear A1 A2 hl hl' hhy
    go_wp2_with fail
    ((with_reducible refine (CL1.out.of hG2 hr).mono ?_); rintro e w5 ⟨rfl, hb5⟩)
    have hbA := below_alloc w5 (.cells #[.string ⟨(la).toArray⟩, .string ⟨(lb).toArray⟩] 32)
    have x9 := FBox.new w5 (.string ⟨(la).toArray⟩) (.string ⟨(lb).toArray⟩) 32
    have hbC := bto hb5 hbA
    replace x5 := x5.below hbC
    replace hb := bto hb hbC
    replace hr := bto hr hbC
    have hz5 := hb5.size
    (try simp only [World.size_alloc] at hz5)
    clear hb5 hbA hbC
    go_wp2_with fail
    ((with_reducible refine (CL2.out.of hG2 hr).mono ?_); rintro e w6 ⟨rfl, hb6⟩)
    have hbA := below_alloc w6 (.cells #[.string ⟨(la).toArray⟩, .string ⟨(lb).toArray⟩] 32)
    have x11 := FBox.new w6 (.string ⟨(la).toArray⟩) (.string ⟨(lb).toArray⟩) 32
    have hbC := bto hb6 hbA
    replace x5 := x5.below hbC
    replace x9 := x9.below hbC
    replace hb := bto hb hbC
    replace hr := bto hr hbC
    have hz6 := hb6.size
    (try simp only [World.size_alloc] at hz6)
    clear hb6 hbA hbC
    have q0 := x5.c0
    have q1 := x5.c1
    go_wp2_with fail
    ((with_reducible refine (CA1.out.of hG2 hr).mono ?_); rintro e w7 ⟨rfl, hb7⟩)
    have hAx13 := below_alloc w7 (.cells #[.string ⟨a1.toArray⟩, .string ⟨a2.toArray⟩] 32)
    have x13 := FBox.new w7 (.string ⟨a1.toArray⟩) (.string ⟨a2.toArray⟩) 32
    have hAx14 := below_alloc (w7.alloc (.cells #[.string ⟨a1.toArray⟩, .string ⟨a2.toArray⟩] 32)) (.cells #[.string ⟨b1.toArray⟩, .string ⟨b2.toArray⟩] 32)
    have x14 := FBox.new (w7.alloc (.cells #[.string ⟨a1.toArray⟩, .string ⟨a2.toArray⟩] 32)) (.string ⟨b1.toArray⟩) (.string ⟨b2.toArray⟩) 32
    replace x13 := x13.below hAx14
    have hbC := (bto (bto hb7 hAx13) hAx14)
    replace x5 := x5.below hbC
    replace x9 := x9.below hbC
    replace x11 := x11.below hbC
    replace hb := bto hb hbC
    replace hr := bto hr hbC
    clear q0 q1 hbC hb7 CA1 hAx13 hAx14
    (try simp only [World.size_alloc] at x13 x14)
    have q0 := x5.c0
    have q1 := x5.c1
    go_wp2_with fail
    ((with_reducible refine (CA2.out.of hG2 hr).mono ?_); rintro e w8 ⟨rfl, hb8⟩)
    have hAx16 := below_alloc w8 (.cells #[.string ⟨a1.toArray⟩, .string ⟨a2.toArray⟩] 32)
    have x16 := FBox.new w8 (.string ⟨a1.toArray⟩) (.string ⟨a2.toArray⟩) 32
    have hAx17 := below_alloc (w8.alloc (.cells #[.string ⟨a1.toArray⟩, .string ⟨a2.toArray⟩] 32)) (.cells #[.string ⟨b1.toArray⟩, .string ⟨b2.toArray⟩] 32)
    have x17 := FBox.new (w8.alloc (.cells #[.string ⟨a1.toArray⟩, .string ⟨a2.toArray⟩] 32)) (.string ⟨b1.toArray⟩) (.string ⟨b2.toArray⟩) 32
    replace x16 := x16.below hAx17
    have hbC := (bto (bto hb8 hAx16) hAx17)
    replace x5 := x5.below hbC
    replace x9 := x9.below hbC
    replace x11 := x11.below hbC
    replace x13 := x13.below hbC
    replace x14 := x14.below hbC
    replace hb := bto hb hbC
    replace hr := bto hr hbC
    clear q0 q1 hbC hb8 CA2 hAx16 hAx17
    (try simp only [World.size_alloc] at x16 x17)
    have qx90 := x9.c0
    have qx91 := x9.c1
    have qx110 := x11.c0
    have qx111 := x11.c1
    have qx130 := x13.c0
    have qx131 := x13.c1
    have qx140 := x14.c0
    have qx141 := x14.c1
    have qx160 := x16.c0
    have qx161 := x16.c1
    have qx170 := x17.c0
    have qx171 := x17.c1
    go_wp2_with fail
    ((with_reducible refine (CW.out.of hG hb).mono ?_); rintro e w99 ⟨rfl, hb99⟩)
    go_wp2
    go_ret
    exact ⟨rfl, bto hb hb99⟩
  have e1 : decide (12 < n) = false := decide_eq_false h12
  have e3 : decide (403 < n) = false := decide_eq_false (by omega)
  have hgap : n ≤ 12 ∨ 400 < n := by omega
  have hsm : n ≤ 1000 := by omega
  have hG2 := hG.below hb
  have hr := Below.refl w3.heap.size w3
  have HFL : FL w3 A fs n := ⟨HN.out, hsm, hgap, HSt.out, HI.out.below hb⟩
  obtain ⟨la, lb, lc, hlk⟩ := link_gen fs
  have CL1 := Lib.hid (twLink hG2 HFL c)
  have CL2 := Lib.hid (rwLink hG2 HFL c)
  rw [hlk] at CL1 CL2
  have hhy := HY.out
  clear HFL hlk hgap hsm
  by_cases y8 : 8 < y
  · have d1 : decide (8 < y) = true := decide_eq_true y8
    by_cases y100 : y ≤ 100
    · have d2 : decide (y ≤ 100) = true := decide_eq_true y100
      obtain ⟨ky, hky⟩ : ∃ ky, ky = y % 8 + 1 := ⟨_, rfl⟩
      have HKy : Hid (y % 8 + 1 = ky) := hky.symm
      have hk8 : ky ≤ 8 := by omega
      clear hky
      obtain ⟨a1, a2, b1, b2, ac, A1, A2⟩ := annual_gen l l' (ky) p hl hl' (.inl hk8)
      have CA1 := Lib.hid A1
      have CA2 := Lib.hid A2
      clear A1 A2 hl hl' hhy
      go_wp2_with fail
      simp only [HKy.out]
      ((with_reducible refine (CL1.out.of hG2 hr).mono ?_); rintro e w5 ⟨rfl, hb5⟩)
      have hbA := below_alloc w5 (.cells #[.string ⟨(la).toArray⟩, .string ⟨(lb).toArray⟩] 32)
      have x9 := FBox.new w5 (.string ⟨(la).toArray⟩) (.string ⟨(lb).toArray⟩) 32
      have hbC := bto hb5 hbA
      replace x5 := x5.below hbC
      replace hb := bto hb hbC
      replace hr := bto hr hbC
      have hz5 := hb5.size
      (try simp only [World.size_alloc] at hz5)
      clear hb5 hbA hbC
      go_wp2_with fail
      ((with_reducible refine (CL2.out.of hG2 hr).mono ?_); rintro e w6 ⟨rfl, hb6⟩)
      have hbA := below_alloc w6 (.cells #[.string ⟨(la).toArray⟩, .string ⟨(lb).toArray⟩] 32)
      have x11 := FBox.new w6 (.string ⟨(la).toArray⟩) (.string ⟨(lb).toArray⟩) 32
      have hbC := bto hb6 hbA
      replace x5 := x5.below hbC
      replace x9 := x9.below hbC
      replace hb := bto hb hbC
      replace hr := bto hr hbC
      have hz6 := hb6.size
      (try simp only [World.size_alloc] at hz6)
      clear hb6 hbA hbC
      have q0 := x5.c0
      have q1 := x5.c1
      go_wp2_with fail
      ((with_reducible refine (CA1.out.of hG2 hr).mono ?_); rintro e w7 ⟨rfl, hb7⟩)
      have hAx13 := below_alloc w7 (.cells #[.string ⟨a1.toArray⟩, .string ⟨a2.toArray⟩] 32)
      have x13 := FBox.new w7 (.string ⟨a1.toArray⟩) (.string ⟨a2.toArray⟩) 32
      have hAx14 := below_alloc (w7.alloc (.cells #[.string ⟨a1.toArray⟩, .string ⟨a2.toArray⟩] 32)) (.cells #[.string ⟨b1.toArray⟩, .string ⟨b2.toArray⟩] 32)
      have x14 := FBox.new (w7.alloc (.cells #[.string ⟨a1.toArray⟩, .string ⟨a2.toArray⟩] 32)) (.string ⟨b1.toArray⟩) (.string ⟨b2.toArray⟩) 32
      replace x13 := x13.below hAx14
      have hbC := (bto (bto hb7 hAx13) hAx14)
      replace x5 := x5.below hbC
      replace x9 := x9.below hbC
      replace x11 := x11.below hbC
      replace hb := bto hb hbC
      replace hr := bto hr hbC
      clear q0 q1 hbC hb7 CA1 hAx13 hAx14
      (try simp only [World.size_alloc] at x13 x14)
      have q0 := x5.c0
      have q1 := x5.c1
      go_wp2_with fail
      ((with_reducible refine (CA2.out.of hG2 hr).mono ?_); rintro e w8 ⟨rfl, hb8⟩)
      have hAx16 := below_alloc w8 (.cells #[.string ⟨a1.toArray⟩, .string ⟨a2.toArray⟩] 32)
      have x16 := FBox.new w8 (.string ⟨a1.toArray⟩) (.string ⟨a2.toArray⟩) 32
      have hAx17 := below_alloc (w8.alloc (.cells #[.string ⟨a1.toArray⟩, .string ⟨a2.toArray⟩] 32)) (.cells #[.string ⟨b1.toArray⟩, .string ⟨b2.toArray⟩] 32)
      have x17 := FBox.new (w8.alloc (.cells #[.string ⟨a1.toArray⟩, .string ⟨a2.toArray⟩] 32)) (.string ⟨b1.toArray⟩) (.string ⟨b2.toArray⟩) 32
      replace x16 := x16.below hAx17
      have hbC := (bto (bto hb8 hAx16) hAx17)
      replace x5 := x5.below hbC
      replace x9 := x9.below hbC
      replace x11 := x11.below hbC
      replace x13 := x13.below hbC
      replace x14 := x14.below hbC
      replace hb := bto hb hbC
      replace hr := bto hr hbC
      clear q0 q1 hbC hb8 CA2 hAx16 hAx17
      (try simp only [World.size_alloc] at x16 x17)
      have qx90 := x9.c0
      have qx91 := x9.c1
      have qx110 := x11.c0
      have qx111 := x11.c1
      have qx130 := x13.c0
      have qx131 := x13.c1
      have qx140 := x14.c0
      have qx141 := x14.c1
      have qx160 := x16.c0
      have qx161 := x16.c1
      have qx170 := x17.c0
      have qx171 := x17.c1
      go_wp2_with fail
      ((with_reducible refine (CW.out.of hG hb).mono ?_); rintro e w99 ⟨rfl, hb99⟩)
      go_wp2
      go_ret
      exact ⟨rfl, bto hb hb99⟩
    have d2 : decide (y ≤ 100) = false := decide_eq_false y100
    obtain ⟨a1, a2, b1, b2, ac, A1, A2⟩ := annual_gen l l' (y) p hl hl' (.inr (by omega))
    have CA1 := Lib.hid A1
    have CA2 := Lib.hid A2
    clear A1 A2 hl hl' hhy
    go_wp2_with fail
    ((with_reducible refine (CL1.out.of hG2 hr).mono ?_); rintro e w5 ⟨rfl, hb5⟩)
    have hbA := below_alloc w5 (.cells #[.string ⟨(la).toArray⟩, .string ⟨(lb).toArray⟩] 32)
    have x9 := FBox.new w5 (.string ⟨(la).toArray⟩) (.string ⟨(lb).toArray⟩) 32
    have hbC := bto hb5 hbA
    replace x5 := x5.below hbC
    replace hb := bto hb hbC
    replace hr := bto hr hbC
    have hz5 := hb5.size
    (try simp only [World.size_alloc] at hz5)
    clear hb5 hbA hbC
    go_wp2_with fail
    ((with_reducible refine (CL2.out.of hG2 hr).mono ?_); rintro e w6 ⟨rfl, hb6⟩)
    have hbA := below_alloc w6 (.cells #[.string ⟨(la).toArray⟩, .string ⟨(lb).toArray⟩] 32)
    have x11 := FBox.new w6 (.string ⟨(la).toArray⟩) (.string ⟨(lb).toArray⟩) 32
    have hbC := bto hb6 hbA
    replace x5 := x5.below hbC
    replace x9 := x9.below hbC
    replace hb := bto hb hbC
    replace hr := bto hr hbC
    have hz6 := hb6.size
    (try simp only [World.size_alloc] at hz6)
    clear hb6 hbA hbC
    have q0 := x5.c0
    have q1 := x5.c1
    go_wp2_with fail
    ((with_reducible refine (CA1.out.of hG2 hr).mono ?_); rintro e w7 ⟨rfl, hb7⟩)
    have hAx13 := below_alloc w7 (.cells #[.string ⟨a1.toArray⟩, .string ⟨a2.toArray⟩] 32)
    have x13 := FBox.new w7 (.string ⟨a1.toArray⟩) (.string ⟨a2.toArray⟩) 32
    have hAx14 := below_alloc (w7.alloc (.cells #[.string ⟨a1.toArray⟩, .string ⟨a2.toArray⟩] 32)) (.cells #[.string ⟨b1.toArray⟩, .string ⟨b2.toArray⟩] 32)
    have x14 := FBox.new (w7.alloc (.cells #[.string ⟨a1.toArray⟩, .string ⟨a2.toArray⟩] 32)) (.string ⟨b1.toArray⟩) (.string ⟨b2.toArray⟩) 32
    replace x13 := x13.below hAx14
    have hbC := (bto (bto hb7 hAx13) hAx14)
    replace x5 := x5.below hbC
    replace x9 := x9.below hbC
    replace x11 := x11.below hbC
    replace hb := bto hb hbC
    replace hr := bto hr hbC
    clear q0 q1 hbC hb7 CA1 hAx13 hAx14
    (try simp only [World.size_alloc] at x13 x14)
    have q0 := x5.c0
    have q1 := x5.c1
    go_wp2_with fail
    ((with_reducible refine (CA2.out.of hG2 hr).mono ?_); rintro e w8 ⟨rfl, hb8⟩)
    have hAx16 := below_alloc w8 (.cells #[.string ⟨a1.toArray⟩, .string ⟨a2.toArray⟩] 32)
    have x16 := FBox.new w8 (.string ⟨a1.toArray⟩) (.string ⟨a2.toArray⟩) 32
    have hAx17 := below_alloc (w8.alloc (.cells #[.string ⟨a1.toArray⟩, .string ⟨a2.toArray⟩] 32)) (.cells #[.string ⟨b1.toArray⟩, .string ⟨b2.toArray⟩] 32)
    have x17 := FBox.new (w8.alloc (.cells #[.string ⟨a1.toArray⟩, .string ⟨a2.toArray⟩] 32)) (.string ⟨b1.toArray⟩) (.string ⟨b2.toArray⟩) 32
    replace x16 := x16.below hAx17
    have hbC := (bto (bto hb8 hAx16) hAx17)
    replace x5 := x5.below hbC
    replace x9 := x9.below hbC
    replace x11 := x11.below hbC
    replace x13 := x13.below hbC
    replace x14 := x14.below hbC
    replace hb := bto hb hbC
    replace hr := bto hr hbC
    clear q0 q1 hbC hb8 CA2 hAx16 hAx17
    (try simp only [World.size_alloc] at x16 x17)
    have qx90 := x9.c0
    have qx91 := x9.c1
    have qx110 := x11.c0
    have qx111 := x11.c1
    have qx130 := x13.c0
    have qx131 := x13.c1
    have qx140 := x14.c0
    have qx141 := x14.c1
    have qx160 := x16.c0
    have qx161 := x16.c1
    have qx170 := x17.c0
    have qx171 := x17.c1
    go_wp2_with fail
    ((with_reducible refine (CW.out.of hG hb).mono ?_); rintro e w99 ⟨rfl, hb99⟩)
    go_wp2
    go_ret
    exact ⟨rfl, bto hb hb99⟩
  have d1 : decide (8 < y) = false := decide_eq_false y8
  obtain ⟨a1, a2, b1, b2, ac, A1, A2⟩ := annual_gen l l' (y) p hl hl' (.inl (by omega))
  have CA1 := Lib.hid A1
  have CA2 := Lib.hid A2
  clear A1 A2 hl hl' hhy
  go_wp2_with fail
  ((with_reducible refine (CL1.out.of hG2 hr).mono ?_); rintro e w5 ⟨rfl, hb5⟩)
  have hbA := below_alloc w5 (.cells #[.string ⟨(la).toArray⟩, .string ⟨(lb).toArray⟩] 32)
  have x9 := FBox.new w5 (.string ⟨(la).toArray⟩) (.string ⟨(lb).toArray⟩) 32
  have hbC := bto hb5 hbA
  replace x5 := x5.below hbC
  replace hb := bto hb hbC
  replace hr := bto hr hbC
  have hz5 := hb5.size
  (try simp only [World.size_alloc] at hz5)
  clear hb5 hbA hbC
  go_wp2_with fail
  ((with_reducible refine (CL2.out.of hG2 hr).mono ?_); rintro e w6 ⟨rfl, hb6⟩)
  have hbA := below_alloc w6 (.cells #[.string ⟨(la).toArray⟩, .string ⟨(lb).toArray⟩] 32)
  have x11 := FBox.new w6 (.string ⟨(la).toArray⟩) (.string ⟨(lb).toArray⟩) 32
  have hbC := bto hb6 hbA
  replace x5 := x5.below hbC
  replace x9 := x9.below hbC
  replace hb := bto hb hbC
  replace hr := bto hr hbC
  have hz6 := hb6.size
  (try simp only [World.size_alloc] at hz6)
  clear hb6 hbA hbC
  have q0 := x5.c0
  have q1 := x5.c1
  go_wp2_with fail
  ((with_reducible refine (CA1.out.of hG2 hr).mono ?_); rintro e w7 ⟨rfl, hb7⟩)
  have hAx13 := below_alloc w7 (.cells #[.string ⟨a1.toArray⟩, .string ⟨a2.toArray⟩] 32)
  have x13 := FBox.new w7 (.string ⟨a1.toArray⟩) (.string ⟨a2.toArray⟩) 32
  have hAx14 := below_alloc (w7.alloc (.cells #[.string ⟨a1.toArray⟩, .string ⟨a2.toArray⟩] 32)) (.cells #[.string ⟨b1.toArray⟩, .string ⟨b2.toArray⟩] 32)
  have x14 := FBox.new (w7.alloc (.cells #[.string ⟨a1.toArray⟩, .string ⟨a2.toArray⟩] 32)) (.string ⟨b1.toArray⟩) (.string ⟨b2.toArray⟩) 32
  replace x13 := x13.below hAx14
  have hbC := (bto (bto hb7 hAx13) hAx14)
  replace x5 := x5.below hbC
  replace x9 := x9.below hbC
  replace x11 := x11.below hbC
  replace hb := bto hb hbC
  replace hr := bto hr hbC
  clear q0 q1 hbC hb7 CA1 hAx13 hAx14
  (try simp only [World.size_alloc] at x13 x14)
  have q0 := x5.c0
  have q1 := x5.c1
  go_wp2_with fail
  ((with_reducible refine (CA2.out.of hG2 hr).mono ?_); rintro e w8 ⟨rfl, hb8⟩)
  have hAx16 := below_alloc w8 (.cells #[.string ⟨a1.toArray⟩, .string ⟨a2.toArray⟩] 32)
  have x16 := FBox.new w8 (.string ⟨a1.toArray⟩) (.string ⟨a2.toArray⟩) 32
  have hAx17 := below_alloc (w8.alloc (.cells #[.string ⟨a1.toArray⟩, .string ⟨a2.toArray⟩] 32)) (.cells #[.string ⟨b1.toArray⟩, .string ⟨b2.toArray⟩] 32)
  have x17 := FBox.new (w8.alloc (.cells #[.string ⟨a1.toArray⟩, .string ⟨a2.toArray⟩] 32)) (.string ⟨b1.toArray⟩) (.string ⟨b2.toArray⟩) 32
  replace x16 := x16.below hAx17
  have hbC := (bto (bto hb8 hAx16) hAx17)
  replace x5 := x5.below hbC
  replace x9 := x9.below hbC
  replace x11 := x11.below hbC
  replace x13 := x13.below hbC
  replace x14 := x14.below hbC
  replace hb := bto hb hbC
  replace hr := bto hr hbC
  clear q0 q1 hbC hb8 CA2 hAx16 hAx17
  (try simp only [World.size_alloc] at x16 x17)
  have qx90 := x9.c0
  have qx91 := x9.c1
  have qx110 := x11.c0
  have qx111 := x11.c1
  have qx130 := x13.c0
  have qx131 := x13.c1
  have qx140 := x14.c0
  have qx141 := x14.c1
  have qx160 := x16.c0
  have qx161 := x16.c1
  have qx170 := x17.c0
  have qx171 := x17.c1
  go_wp2_with fail
  ((with_reducible refine (CW.out.of hG hb).mono ?_); rintro e w99 ⟨rfl, hb99⟩)
  go_wp2
  go_ret
  exact ⟨rfl, bto hb hb99⟩
end Go.Proofs.YtmjglcgdcclinaaGreatDoor
