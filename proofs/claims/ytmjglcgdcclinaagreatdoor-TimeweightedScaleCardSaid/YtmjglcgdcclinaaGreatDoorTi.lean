/- tranchelaw46: frac, awake. -/
import Derived.Test.YtmjglcgdcclinaaGreatDoorTh
namespace Go.Proofs.YtmjglcgdcclinaaGreatDoor
open Go.RowKit Num
set_option maxHeartbeats 1000000 in
set_option maxRecDepth 100000 in
theorem twFrac {l l' : List UInt8} (hl : l.length ≤ 1000000) (hl' : l'.length ≤ 1000000) (h0 : val l' ≠ 0) {q : Rat} (eq : Rat.divInt (val l) (val l') = q) : Ret 36 #[.string ⟨l.toArray⟩, .string ⟨l'.toArray⟩] (Value.agg #[Value.string ⟨List.toArray (fN q)⟩, Value.string ⟨List.toArray (fD q)⟩]) := fun w hG => by
  have C1 := Lib.hid (rNew (l := l) (l' := l') hl hl' h0 eq)
  have x3 := FBox.new w (.string ⟨#[]⟩) (.string ⟨#[]⟩) 32
  have hb := below_alloc w (.cells #[.string ⟨#[]⟩, .string ⟨#[]⟩] 32)
  clear hl hl' h0 eq
  go_enter Tryz.func36, Tryz.ntmps36
  go_wp2_with fail
  ((with_reducible refine (C1.out.of hG hb).mono ?_); rintro e w2 ⟨rfl, hb2⟩)
  have x4 := FBox.new w2 (.string ⟨(fN q).toArray⟩) (.string ⟨(fD q).toArray⟩) 32
  have hbA := below_alloc w2 (.cells #[.string ⟨(fN (q)).toArray⟩, .string ⟨(fD (q)).toArray⟩] 32)
  replace x3 := (x3.below hb2).below hbA
  replace hb := bto hb (bto hb2 hbA)
  have g0 := x3.c0
  have g1 := x3.c1
  have g2 := x3.f0
  have g3 := x3.f1
  have p0 := x4.c0
  have p1 := x4.c1
  clear hb2 hbA
  go_wp2
  have hy := x3.set (.string ⟨(fN q).toArray⟩) (.string ⟨(fD q).toArray⟩)
  have d0 := hy.c0
  have d1 := hy.c1
  refine bodyPost_ret (v := (Value.agg #[Value.string ⟨List.toArray (fN q)⟩, Value.string ⟨List.toArray (fD q)⟩])) (by simp [results, Tryz.results36, go_sem, d0, d1]) rfl ?_
  exact ⟨rfl, below_set2 hb (Nat.le_refl _) _ _⟩

theorem twFactorsA {w : World} {A : Option Addr} {ts : List Pnt} {n : Nat} (hG : Glob w) (h : QL w A ts n) (c : Nat) :
    Calls Tryz.prog 24 #[.slice A n c] w fun e w' => ∃ B cp, e = .returned (.tuple #[.slice B (if pntE ts = 0 then facs (pts ts) else []).length cp, .int .i64 (if pntE ts = 0 then 0 else 1)]) ∧ (if pntE ts = 0 then facs (pts ts) else []).length ≤ cp ∧ FsAt w' B (frs (if pntE ts = 0 then facs (pts ts) else [])) ∧ Below w.heap.size w w' := by
  refine (twFactors hG h c).mono ?_
  rintro e w' ⟨v, qs, rfl, rfl, hown, hb⟩
  generalize (if pntE ts = 0 then facs (pts ts) else []) = qs at *
  generalize (if pntE ts = 0 then (0 : Int) else 1) = cd at *
  cases hq : qs with
  | nil =>
    subst hq
    rcases hown.2 with ⟨rfl, -⟩ | ⟨g, cap, cur, rfl, -⟩
    · exact ⟨none, 0, rfl, Nat.le_refl _, fun i t ht => by simp [frs] at ht, hb⟩
    · exact ⟨_, _, rfl, Nat.zero_le _, fun i t ht => by simp [frs] at ht, hb⟩
  | cons q r =>
    rw [← hq]
    have hl : 0 < qs.length := by rw [hq]; simp
    rcases hown.2 with ⟨-, h0⟩ | ⟨g, cap, cur, rfl, hg, hh, hcap, hrest⟩
    · omega
    · obtain ⟨g', hA, -, hr⟩ := own_crow hown (by rw [rowsF_len]; unfold frs; rw [List.length_map]) hl
      injection hA with hA
      injection hA with hA
      subst hA
      exact ⟨_, _, rfl, hcap, crow_fs hr, hb⟩
def awT : List Pnt := [⟨0, [49, 48, 48], []⟩, ⟨10, [49, 50, 48], [45, 50, 48]⟩, ⟨20, [57, 48], []⟩]
theorem aw_ok : pntE awT = 0 := by decide +kernel
theorem aw_f : facs (pts awT) = [Rat.divInt 6 5, Rat.divInt 9 10] := by decide +kernel
theorem aw_r : retV awT = .tuple #[(Value.agg #[Value.string ⟨List.toArray (fN (Rat.divInt 2 25))⟩, Value.string ⟨List.toArray (fD (Rat.divInt 2 25))⟩]), .int .i64 0] := by
  unfold retV
  rw [if_neg (fun h => h aw_ok), aw_f, show prodQ 1 [Rat.divInt 6 5, Rat.divInt 9 10] - 1 = Rat.divInt 2 25 by decide +kernel]
theorem aw_d : dtzV awT = .tuple #[(Value.agg #[Value.string ⟨List.toArray (fN (Rat.divInt 1 9))⟩, Value.string ⟨List.toArray (fD (Rat.divInt 1 9))⟩]), .int .i64 0] := by
  unfold dtzV
  rw [if_neg (fun h => h aw_ok), if_neg (by decide), if_neg (by decide +kernel), show ((gainP (pts awT) : Int) : Rat) / capP (pts awT) = Rat.divInt 1 9 by decide +kernel]
theorem root_at {f : Rat} {n : Nat} {u z : Int} (hf : 0 < f) (hn : 0 < n) (hu : 0 < u) (hz : 1 ≤ z) (h1 : (Rat.divInt z u) ^ n ≤ f) (h2 : ¬ (Rat.divInt (z + 1) u) ^ n ≤ f) : RootA f n u z := by
  obtain ⟨y, hy⟩ := rootA_is hf hn hu
  have a1 := (hy.iff z hz).1 h1
  have a2 : ¬ z + 1 ≤ y := fun h => h2 ((hy.iff (z + 1) (by omega)).2 h)
  obtain rfl : y = z := by omega
  exact hy
theorem aw_r1 : RootA (fv (fN (Rat.divInt 2 1)) (fD (Rat.divInt 2 1))) (3 : Int).toNat ((10 ^ (2 : Int).toNat : Nat) : Int) 125 := by
  rw [fv_frac]
  exact root_at (by decide +kernel) (by decide) (by decide) (by decide) (by decide +kernel) (by decide +kernel)
theorem aw_r2 : RootA (fv (fN (Rat.divInt 8 27)) (fD (Rat.divInt 8 27))) (3 : Int).toNat ((10 ^ (2 : Int).toNat : Nat) : Int) 66 := by
  rw [fv_frac]
  exact root_at (by decide +kernel) (by decide) (by decide) (by decide) (by decide +kernel) (by decide +kernel)
theorem aw_a1 : annV (fN (Rat.divInt 2 1)) (fD (Rat.divInt 2 1)) 3 2 125 = .tuple #[(Value.agg #[Value.string ⟨List.toArray (fN (Rat.divInt 1 4))⟩, Value.string ⟨List.toArray (fD (Rat.divInt 1 4))⟩]), (Value.agg #[Value.string ⟨List.toArray (fN (Rat.divInt 13 50))⟩, Value.string ⟨List.toArray (fD (Rat.divInt 13 50))⟩]), .int .i64 0] := by
  unfold annV
  rw [fv_frac, if_neg (fun h => h ⟨rfl, rfl⟩), if_neg (by decide +kernel)]
  rw [show Rat.divInt (125 - ((10 ^ (2 : Int).toNat : Nat) : Int)) ((10 ^ (2 : Int).toNat : Nat) : Int) = Rat.divInt 1 4 by decide +kernel]
  rw [show Rat.divInt (topA (Rat.divInt 2 1) (3 : Int).toNat ((10 ^ (2 : Int).toNat : Nat) : Int) 125 - ((10 ^ (2 : Int).toNat : Nat) : Int)) ((10 ^ (2 : Int).toNat : Nat) : Int) = Rat.divInt 13 50 by decide +kernel]
theorem aw_a2 : annV (fN (Rat.divInt 8 27)) (fD (Rat.divInt 8 27)) 3 2 66 = .tuple #[(Value.agg #[Value.string ⟨List.toArray (fN (Rat.divInt (-17) 50))⟩, Value.string ⟨List.toArray (fD (Rat.divInt (-17) 50))⟩]), (Value.agg #[Value.string ⟨List.toArray (fN (Rat.divInt (-33) 100))⟩, Value.string ⟨List.toArray (fD (Rat.divInt (-33) 100))⟩]), .int .i64 0] := by
  unfold annV
  rw [fv_frac, if_neg (fun h => h ⟨rfl, rfl⟩), if_neg (by decide +kernel)]
  rw [show Rat.divInt (66 - ((10 ^ (2 : Int).toNat : Nat) : Int)) ((10 ^ (2 : Int).toNat : Nat) : Int) = Rat.divInt (-17) 50 by decide +kernel]
  rw [show Rat.divInt (topA (Rat.divInt 8 27) (3 : Int).toNat ((10 ^ (2 : Int).toNat : Nat) : Int) 66 - ((10 ^ (2 : Int).toNat : Nat) : Int)) ((10 ^ (2 : Int).toNat : Nat) : Int) = Rat.divInt (-33) 100 by decide +kernel]
theorem twAnnualR (q : Rat) (y p z : Int) (hq : (fN q).length ≤ 60 ∧ (fD q).length ≤ 60) (gb : ¬ annBad q y p) (hy8 : y ≤ 8) (hR : RootA (fv (fN q) (fD q)) y.toNat ((10 ^ p.toNat : Nat) : Int) z) : Ret 45 #[(Value.agg #[Value.string ⟨List.toArray (fN q)⟩, Value.string ⟨List.toArray (fD q)⟩]), .int .i64 y, .int .i64 p] (annV (fN q) (fD q) y p z) := fun w hG =>
  twAnnual_ok (fN q) (fD q) y p z w hG hq.1 hq.2 (by rw [fv_frac]; exact ⟨rfl, rfl⟩) (by rw [fv_frac]; exact gb) hy8 hR
set_option maxHeartbeats 8000000 in
set_option maxRecDepth 100000 in
theorem wAwake46 : Ret 23 #[] (.bool true) := fun w hG => by
  obtain ⟨wa, hwa⟩ : ∃ wa, wa = w.alloc (.cells #[.int .i64 0, .string ⟨#[49, 48, 48]⟩, .string ⟨#[]⟩, .int .i64 10, .string ⟨#[49, 50, 48]⟩, .string ⟨#[45, 50, 48]⟩, .int .i64 20, .string ⟨#[57, 48]⟩, .string ⟨#[]⟩] 50) := ⟨_, rfl⟩
  have HQ : QL wa (some ⟨w.heap.size, 0, none⟩) awT 3 := by
    refine ⟨rfl, by decide, .inl (by decide), by decide, fun i t ht => ?_⟩
    have hi := (List.getElem?_eq_some_iff.1 ht).1
    have hi : i = 0 ∨ i = 1 ∨ i = 2 := by simp [awT] at hi; omega
    rw [hwa]
    rcases hi with rfl | rfl | rfl <;> (simp [awT] at ht; subst ht; exact ⟨w.heap.size, 0, rfl, by simp, by simp [go_sem], by simp [go_sem], by simp [go_sem]⟩)
  have hb : Below w.heap.size w wa := by rw [hwa]; exact below_alloc _ _
  have CF := Lib.hid (twFactorsA (hG.below hb) HQ 3)
  simp only [aw_ok, if_true, aw_f] at CF
  have CR := Lib.hid (twReturn (hG.below hb) HQ 3)
  rw [aw_r] at CR
  have CD := Lib.hid (twDietz (hG.below hb) HQ 3 (by decide))
  rw [aw_d] at CD
  have HWa := Lib.hid hwa
  have B1 := Lib.hid (twFrac (l := [50]) (l' := [49]) (by decide) (by decide) (by decide) (show _ = Rat.divInt 2 1 by decide))
  have B2 := Lib.hid (twFrac (l := [56]) (l' := [50, 55]) (by decide) (by decide) (by decide) (show _ = Rat.divInt 8 27 by decide))
  have B3 := Lib.hid (twFrac (l := [54]) (l' := [53]) (by decide) (by decide) (by decide) (show _ = Rat.divInt 6 5 by decide))
  have B4 := Lib.hid (twFrac (l := [57]) (l' := [49, 48]) (by decide) (by decide) (by decide) (show _ = Rat.divInt 9 10 by decide))
  have D1 := Lib.hid (twFrac (l := [50]) (l' := [50, 53]) (by decide) (by decide) (by decide) (show _ = Rat.divInt 2 25 by decide))
  have D2 := Lib.hid (twFrac (l := [49]) (l' := [57]) (by decide) (by decide) (by decide) (show _ = Rat.divInt 1 9 by decide))
  have D3 := Lib.hid (twFrac (l := [49]) (l' := [52]) (by decide) (by decide) (by decide) (show _ = Rat.divInt 1 4 by decide))
  have D4 := Lib.hid (twFrac (l := [49, 51]) (l' := [53, 48]) (by decide) (by decide) (by decide) (show _ = Rat.divInt 13 50 by decide))
  have D5 := Lib.hid (twFrac (l := [45, 49, 55]) (l' := [53, 48]) (by decide) (by decide) (by decide) (show _ = Rat.divInt (-17) 50 by decide))
  have D6 := Lib.hid (twFrac (l := [45, 51, 51]) (l' := [49, 48, 48]) (by decide) (by decide) (by decide) (show _ = Rat.divInt (-33) 100 by decide))
  have A1 := Lib.hid (twAnnualR (Rat.divInt 2 1) 3 2 125 (by decide +kernel) (by decide +kernel) (by decide) aw_r1)
  rw [aw_a1] at A1
  have A2 := Lib.hid (twAnnualR (Rat.divInt 8 27) 3 2 66 (by decide +kernel) (by decide +kernel) (by decide) aw_r2)
  rw [aw_a2] at A2
  generalize Rat.divInt 2 1 = k1 at *
  generalize Rat.divInt 8 27 = k2 at *
  generalize Rat.divInt 6 5 = k3 at *
  generalize Rat.divInt 9 10 = k4 at *
  generalize Rat.divInt 2 25 = q1 at *
  generalize Rat.divInt 1 9 = q2 at *
  generalize Rat.divInt 1 4 = q3 at *
  generalize Rat.divInt 13 50 = q4 at *
  generalize Rat.divInt (-17) 50 = q5 at *
  generalize Rat.divInt (-33) 100 = q6 at *
  clear hwa HQ
  go_enter Tryz.func23, Tryz.ntmps23
  go_wp2_with fail
  rw [← HWa.out]
  refine CF.out.mono ?_
  rintro e w2 ⟨B, cp, rfl, hcp, hfs, hb2⟩
  have HFS := Lib.hid hfs
  have CR2 := Lib.hid (CR.out.below hb2)
  have CD2 := Lib.hid (CD.out.below hb2)
  have HG2 := hG.below (bto hb hb2)
  replace hb := bto hb hb2
  have hcp2 := hcp
  clear hcp hfs hb2 CF CR CD
  go_wp2_with fail
  ((with_reducible refine (CR2.out.of HG2 (Below.refl _ _)).mono ?_); rintro e w3 ⟨rfl, hb3⟩)
  have hbA := below_alloc w3 (.cells #[.string ⟨(fN (q1)).toArray⟩, .string ⟨(fD (q1)).toArray⟩] 32)
  have x4 := FBox.new w3 (.string ⟨(fN (q1)).toArray⟩) (.string ⟨(fD (q1)).toArray⟩) 32
  have hb23 := bto hb3 hbA
  replace hb := bto hb hb23
  have HF3 := Lib.hid (HFS.out.below hb23)
  have CD3 := Lib.hid (CD2.out.below hb23)
  have HG3 := hG.below hb
  clear hb3 hbA hb23 CR2 CD2 HFS HG2
  go_wp2_with fail
  ((with_reducible refine (CD3.out.of HG3 (Below.refl _ _)).mono ?_); rintro e w4 ⟨rfl, hb4⟩)
  have hbA := below_alloc w4 (.cells #[.string ⟨(fN (q2)).toArray⟩, .string ⟨(fD (q2)).toArray⟩] 32)
  have x6 := FBox.new w4 (.string ⟨(fN (q2)).toArray⟩) (.string ⟨(fD (q2)).toArray⟩) 32
  have hb34 := bto hb4 hbA
  replace x4 := x4.below hb34
  replace hb := bto hb hb34
  have HF4 := Lib.hid (HF3.out.below hb34)
  clear hb4 hbA hb34 CD3 HF3 HG3
  go_wp2_with fail
  ((with_reducible refine (B1.out.of hG hb).mono ?_); rintro e w5 ⟨rfl, hb5⟩)
  have hbC := hb5
  replace x4 := x4.below hbC
  replace x6 := x6.below hbC
  replace hb := bto hb hbC
  have HF5 := Lib.hid (HF4.out.below hbC)
  clear hbC hb5 HF4 B1 
  go_wp2_with fail
  ((with_reducible refine (A1.out.of hG hb).mono ?_); rintro e w6 ⟨rfl, hb6⟩)
  have hbAx8 := below_alloc w6 (.cells #[.string ⟨(fN (q3)).toArray⟩, .string ⟨(fD (q3)).toArray⟩] 32)
  have x8 := FBox.new w6 (.string ⟨(fN (q3)).toArray⟩) (.string ⟨(fD (q3)).toArray⟩) 32
  have hbAx9 := below_alloc (w6.alloc (.cells #[.string ⟨(fN (q3)).toArray⟩, .string ⟨(fD (q3)).toArray⟩] 32)) (.cells #[.string ⟨(fN (q4)).toArray⟩, .string ⟨(fD (q4)).toArray⟩] 32)
  have x9 := FBox.new (w6.alloc (.cells #[.string ⟨(fN (q3)).toArray⟩, .string ⟨(fD (q3)).toArray⟩] 32)) (.string ⟨(fN (q4)).toArray⟩) (.string ⟨(fD (q4)).toArray⟩) 32
  replace x8 := x8.below hbAx9
  have hbC := (bto (bto hb6 hbAx8) hbAx9)
  replace x4 := x4.below hbC
  replace x6 := x6.below hbC
  replace hb := bto hb hbC
  have HF6 := Lib.hid (HF5.out.below hbC)
  clear hbC hb6 HF5 A1 hbAx8 hbAx9
  (try simp only [World.size_alloc] at x8 x9)
  go_wp2_with fail
  ((with_reducible refine (B2.out.of hG hb).mono ?_); rintro e w7 ⟨rfl, hb7⟩)
  have hbC := hb7
  replace x4 := x4.below hbC
  replace x6 := x6.below hbC
  replace x8 := x8.below hbC
  replace x9 := x9.below hbC
  replace hb := bto hb hbC
  have HF7 := Lib.hid (HF6.out.below hbC)
  clear hbC hb7 HF6 B2 
  go_wp2_with fail
  ((with_reducible refine (A2.out.of hG hb).mono ?_); rintro e w8 ⟨rfl, hb8⟩)
  have hbAx11 := below_alloc w8 (.cells #[.string ⟨(fN (q5)).toArray⟩, .string ⟨(fD (q5)).toArray⟩] 32)
  have x11 := FBox.new w8 (.string ⟨(fN (q5)).toArray⟩) (.string ⟨(fD (q5)).toArray⟩) 32
  have hbAx12 := below_alloc (w8.alloc (.cells #[.string ⟨(fN (q5)).toArray⟩, .string ⟨(fD (q5)).toArray⟩] 32)) (.cells #[.string ⟨(fN (q6)).toArray⟩, .string ⟨(fD (q6)).toArray⟩] 32)
  have x12 := FBox.new (w8.alloc (.cells #[.string ⟨(fN (q5)).toArray⟩, .string ⟨(fD (q5)).toArray⟩] 32)) (.string ⟨(fN (q6)).toArray⟩) (.string ⟨(fD (q6)).toArray⟩) 32
  replace x11 := x11.below hbAx12
  have hbC := (bto (bto hb8 hbAx11) hbAx12)
  replace x4 := x4.below hbC
  replace x6 := x6.below hbC
  replace x8 := x8.below hbC
  replace x9 := x9.below hbC
  replace hb := bto hb hbC
  have HF8 := Lib.hid (HF7.out.below hbC)
  clear hbC hb8 HF7 A2 hbAx11 hbAx12
  (try simp only [World.size_alloc] at x11 x12)
  go_wp2_with fail
  ((with_reducible refine (B3.out.of hG hb).mono ?_); rintro e w9 ⟨rfl, hb9⟩)
  have hbC := hb9
  replace x4 := x4.below hbC
  replace x6 := x6.below hbC
  replace x8 := x8.below hbC
  replace x9 := x9.below hbC
  replace x11 := x11.below hbC
  replace x12 := x12.below hbC
  replace hb := bto hb hbC
  have HF9 := Lib.hid (HF8.out.below hbC)
  clear hbC hb9 HF8 B3 
  go_wp2_with fail
  ((with_reducible refine (B4.out.of hG hb).mono ?_); rintro e w10 ⟨rfl, hb10⟩)
  have hbC := hb10
  replace x4 := x4.below hbC
  replace x6 := x6.below hbC
  replace x8 := x8.below hbC
  replace x9 := x9.below hbC
  replace x11 := x11.below hbC
  replace x12 := x12.below hbC
  replace hb := bto hb hbC
  have HF10 := Lib.hid (HF9.out.below hbC)
  clear hbC hb10 HF9 B4 
  go_wp2_with fail
  obtain ⟨wc, hwc⟩ : ∃ wc, wc = w10.alloc (.cells #[.string ⟨(fN k3).toArray⟩, .string ⟨(fD k3).toArray⟩, .string ⟨(fN k4).toArray⟩, .string ⟨(fD k4).toArray⟩] 32) := ⟨_, rfl⟩
  have hbC : Below w10.heap.size w10 wc := by rw [hwc]; exact below_alloc _ _
  have hfs2 : FsAt wc (some ⟨w10.heap.size, 0, none⟩) (frs [k3, k4]) := fun i t ht => by
    have hi := (List.getElem?_eq_some_iff.1 ht).1
    have hi : i = 0 ∨ i = 1 := by simp [frs] at hi; omega
    rw [hwc]
    rcases hi with rfl | rfl <;> (simp [frs] at ht; subst ht; exact ⟨w10.heap.size, 0, rfl, by simp, by simp [go_sem], by simp [go_sem]⟩)
  rw [← hwc]
  have CE := Lib.hid (eqFrs B (some ⟨w10.heap.size, 0, none⟩) (frs [k3, k4]) (frs [k3, k4]) 2 2 cp 2 wc rfl rfl (by decide) (by decide) (HF10.out.below hbC) hfs2)
  rw [sameFs_self] at CE
  replace hb := bto hb hbC
  replace x4 := x4.below hbC; replace x6 := x6.below hbC; replace x8 := x8.below hbC; replace x9 := x9.below hbC; replace x11 := x11.below hbC; replace x12 := x12.below hbC; skip
  clear hwc hbC hfs2 HF10
  ((with_reducible refine CE.out.mono ?_); rintro e w11 ⟨rfl, hb11⟩)
  replace x4 := x4.below hb11; replace x6 := x6.below hb11; replace x8 := x8.below hb11; replace x9 := x9.below hb11; replace x11 := x11.below hb11; replace x12 := x12.below hb11; skip
  replace hb := bto hb hb11
  clear hb11 CE
  go_wp2_with fail
  refine wp_region_kept (by kernel_rfl) (by kernel_rfl) ?_
  refine kept_val _ (fun _ => rfl) (fun ρ w hw => by go_simp; first | done | with_reducible rfl) ?_
  simp only [Act.put, List.setIfInBounds_toArray, List.set_cons_zero, List.set_cons_succ, Nat.reduceAdd]
  refine kept_val _ (fun _ => rfl) (fun ρ w hw => by go_simp; first | done | with_reducible rfl) ?_
  simp only [Act.put, List.setIfInBounds_toArray, List.set_cons_zero, List.set_cons_succ, Nat.reduceAdd]
  refine kept_val _ (fun _ => rfl) (fun ρ w hw => by have q0 := (x4.below hw).c0; have q1 := (x4.below hw).c1; go_simp; first | done | with_reducible rfl) ?_
  simp only [Act.put, List.setIfInBounds_toArray, List.set_cons_zero, List.set_cons_succ, Nat.reduceAdd]
  refine kept_call _ _ _ (fun _ => rfl) (fun ρ w hw => by go_simp; first | done | with_reducible rfl) (fun w hw => D1.out.of hG (bto hb hw)) ?_
  simp only [Act.put, List.setIfInBounds_toArray, List.set_cons_zero, List.set_cons_succ, Nat.reduceAdd]
  refine kept_val _ (fun _ => rfl) (fun ρ w hw => by go_simp; first | done | with_reducible rfl) ?_
  simp only [Act.put, List.setIfInBounds_toArray, List.set_cons_zero, List.set_cons_succ, Nat.reduceAdd]
  refine kept_val _ (fun _ => rfl) (fun ρ w hw => by go_simp; first | done | with_reducible rfl) ?_
  simp only [Act.put, List.setIfInBounds_toArray, List.set_cons_zero, List.set_cons_succ, Nat.reduceAdd]
  refine kept_val _ (fun _ => rfl) (fun ρ w hw => by go_simp; first | done | with_reducible rfl) ?_
  simp only [Act.put, List.setIfInBounds_toArray, List.set_cons_zero, List.set_cons_succ, Nat.reduceAdd]
  refine kept_val _ (fun _ => rfl) (fun ρ w hw => by have q0 := (x6.below hw).c0; have q1 := (x6.below hw).c1; go_simp; first | done | with_reducible rfl) ?_
  simp only [Act.put, List.setIfInBounds_toArray, List.set_cons_zero, List.set_cons_succ, Nat.reduceAdd]
  refine kept_call _ _ _ (fun _ => rfl) (fun ρ w hw => by go_simp; first | done | with_reducible rfl) (fun w hw => D2.out.of hG (bto hb hw)) ?_
  simp only [Act.put, List.setIfInBounds_toArray, List.set_cons_zero, List.set_cons_succ, Nat.reduceAdd]
  refine kept_val _ (fun _ => rfl) (fun ρ w hw => by go_simp; first | done | with_reducible rfl) ?_
  simp only [Act.put, List.setIfInBounds_toArray, List.set_cons_zero, List.set_cons_succ, Nat.reduceAdd]
  refine kept_val _ (fun _ => rfl) (fun ρ w hw => by go_simp; first | done | with_reducible rfl) ?_
  simp only [Act.put, List.setIfInBounds_toArray, List.set_cons_zero, List.set_cons_succ, Nat.reduceAdd]
  refine kept_val _ (fun _ => rfl) (fun ρ w hw => by go_simp; first | done | with_reducible rfl) ?_
  simp only [Act.put, List.setIfInBounds_toArray, List.set_cons_zero, List.set_cons_succ, Nat.reduceAdd]
  refine kept_val _ (fun _ => rfl) (fun ρ w hw => by have q0 := (x8.below hw).c0; have q1 := (x8.below hw).c1; go_simp; first | done | with_reducible rfl) ?_
  simp only [Act.put, List.setIfInBounds_toArray, List.set_cons_zero, List.set_cons_succ, Nat.reduceAdd]
  refine kept_call _ _ _ (fun _ => rfl) (fun ρ w hw => by go_simp; first | done | with_reducible rfl) (fun w hw => D3.out.of hG (bto hb hw)) ?_
  simp only [Act.put, List.setIfInBounds_toArray, List.set_cons_zero, List.set_cons_succ, Nat.reduceAdd]
  refine kept_val _ (fun _ => rfl) (fun ρ w hw => by go_simp; first | done | with_reducible rfl) ?_
  simp only [Act.put, List.setIfInBounds_toArray, List.set_cons_zero, List.set_cons_succ, Nat.reduceAdd]
  refine kept_val _ (fun _ => rfl) (fun ρ w hw => by go_simp; first | done | with_reducible rfl) ?_
  simp only [Act.put, List.setIfInBounds_toArray, List.set_cons_zero, List.set_cons_succ, Nat.reduceAdd]
  refine kept_val _ (fun _ => rfl) (fun ρ w hw => by go_simp; first | done | with_reducible rfl) ?_
  simp only [Act.put, List.setIfInBounds_toArray, List.set_cons_zero, List.set_cons_succ, Nat.reduceAdd]
  refine kept_val _ (fun _ => rfl) (fun ρ w hw => by have q0 := (x9.below hw).c0; have q1 := (x9.below hw).c1; go_simp; first | done | with_reducible rfl) ?_
  simp only [Act.put, List.setIfInBounds_toArray, List.set_cons_zero, List.set_cons_succ, Nat.reduceAdd]
  refine kept_call _ _ _ (fun _ => rfl) (fun ρ w hw => by go_simp; first | done | with_reducible rfl) (fun w hw => D4.out.of hG (bto hb hw)) ?_
  simp only [Act.put, List.setIfInBounds_toArray, List.set_cons_zero, List.set_cons_succ, Nat.reduceAdd]
  refine kept_val _ (fun _ => rfl) (fun ρ w hw => by go_simp; first | done | with_reducible rfl) ?_
  simp only [Act.put, List.setIfInBounds_toArray, List.set_cons_zero, List.set_cons_succ, Nat.reduceAdd]
  refine kept_val _ (fun _ => rfl) (fun ρ w hw => by go_simp; first | done | with_reducible rfl) ?_
  simp only [Act.put, List.setIfInBounds_toArray, List.set_cons_zero, List.set_cons_succ, Nat.reduceAdd]
  refine kept_val _ (fun _ => rfl) (fun ρ w hw => by go_simp; first | done | with_reducible rfl) ?_
  simp only [Act.put, List.setIfInBounds_toArray, List.set_cons_zero, List.set_cons_succ, Nat.reduceAdd]
  refine kept_val _ (fun _ => rfl) (fun ρ w hw => by have q0 := (x11.below hw).c0; have q1 := (x11.below hw).c1; go_simp; first | done | with_reducible rfl) ?_
  simp only [Act.put, List.setIfInBounds_toArray, List.set_cons_zero, List.set_cons_succ, Nat.reduceAdd]
  refine kept_call _ _ _ (fun _ => rfl) (fun ρ w hw => by go_simp; first | done | with_reducible rfl) (fun w hw => D5.out.of hG (bto hb hw)) ?_
  simp only [Act.put, List.setIfInBounds_toArray, List.set_cons_zero, List.set_cons_succ, Nat.reduceAdd]
  refine kept_val _ (fun _ => rfl) (fun ρ w hw => by go_simp; first | done | with_reducible rfl) ?_
  simp only [Act.put, List.setIfInBounds_toArray, List.set_cons_zero, List.set_cons_succ, Nat.reduceAdd]
  refine kept_val _ (fun _ => rfl) (fun ρ w hw => by go_simp; first | done | with_reducible rfl) ?_
  simp only [Act.put, List.setIfInBounds_toArray, List.set_cons_zero, List.set_cons_succ, Nat.reduceAdd]
  refine kept_val _ (fun _ => rfl) (fun ρ w hw => by go_simp; first | done | with_reducible rfl) ?_
  simp only [Act.put, List.setIfInBounds_toArray, List.set_cons_zero, List.set_cons_succ, Nat.reduceAdd]
  refine kept_val _ (fun _ => rfl) (fun ρ w hw => by have q0 := (x12.below hw).c0; have q1 := (x12.below hw).c1; go_simp; first | done | with_reducible rfl) ?_
  simp only [Act.put, List.setIfInBounds_toArray, List.set_cons_zero, List.set_cons_succ, Nat.reduceAdd]
  refine kept_call _ _ _ (fun _ => rfl) (fun ρ w hw => by go_simp; first | done | with_reducible rfl) (fun w hw => D6.out.of hG (bto hb hw)) ?_
  simp only [Act.put, List.setIfInBounds_toArray, List.set_cons_zero, List.set_cons_succ, Nat.reduceAdd]
  refine kept_val _ (fun _ => rfl) (fun ρ w hw => by go_simp; first | done | with_reducible rfl) ?_
  simp only [Act.put, List.setIfInBounds_toArray, List.set_cons_zero, List.set_cons_succ, Nat.reduceAdd]
  refine kept_val _ (fun _ => rfl) (fun ρ w hw => by go_simp; first | done | with_reducible rfl) ?_
  simp only [Act.put, List.setIfInBounds_toArray, List.set_cons_zero, List.set_cons_succ, Nat.reduceAdd]
  refine kept_val _ (fun _ => rfl) (fun ρ w hw => by go_simp; first | done | with_reducible rfl) ?_
  simp only [Act.put, List.setIfInBounds_toArray, List.set_cons_zero, Nat.reduceAdd]
  refine kept_end (fun ρ w12 hF => ?_)
  have hbF := hF.below
  replace hb := bto hb hbF
  clear hF hbF
  go_wp2
  go_ret
  exact ⟨rfl, hb⟩
end Go.Proofs.YtmjglcgdcclinaaGreatDoor
