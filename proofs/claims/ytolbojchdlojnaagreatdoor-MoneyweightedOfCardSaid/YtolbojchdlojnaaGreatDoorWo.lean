/- tranchelaw47: awake. -/
import Derived.Test.YtolbojchdlojnaaGreatDoorWn
namespace Go.Proofs.YtolbojchdlojnaaGreatDoor
open Go.RowKit Num
def pa1 : List Pay := [⟨0, [45, 49, 48, 48]⟩, ⟨2, [49, 50, 49]⟩]
def pa2 : List Pay := [⟨0, [45, 49, 48, 48]⟩, ⟨1, [45, 49, 48, 48]⟩, ⟨2, [50, 50, 48]⟩]
def pa3 : List Pay := [⟨0, [45, 49]⟩, ⟨1, [51]⟩, ⟨2, [45, 50]⟩]
theorem payAt2 (w : World) (a b : Pay) (t : TypeId) : PayAt (w.alloc (.cells #[.int .i64 a.per, .string ⟨a.amt.toArray⟩, .int .i64 b.per, .string ⟨b.amt.toArray⟩] t)) (some ⟨w.heap.size, 0, none⟩) [a, b] := fun i p hp => by
  have hi := (List.getElem?_eq_some_iff.1 hp).1
  have hi : i = 0 ∨ i = 1 := by simp at hi; omega
  rcases hi with rfl | rfl <;> (simp at hp; subst hp; exact ⟨w.heap.size, 0, rfl, by simp, by simp [go_sem], by simp [go_sem]⟩)
theorem payAt3 (w : World) (a b c : Pay) (t : TypeId) : PayAt (w.alloc (.cells #[.int .i64 a.per, .string ⟨a.amt.toArray⟩, .int .i64 b.per, .string ⟨b.amt.toArray⟩, .int .i64 c.per, .string ⟨c.amt.toArray⟩] t)) (some ⟨w.heap.size, 0, none⟩) [a, b, c] := fun i p hp => by
  have hi := (List.getElem?_eq_some_iff.1 hp).1
  have hi : i = 0 ∨ i = 1 ∨ i = 2 := by simp at hi; omega
  rcases hi with rfl | rfl | rfl <;> (simp at hp; subst hp; exact ⟨w.heap.size, 0, rfl, by simp, by simp [go_sem], by simp [go_sem]⟩)
theorem good1 : GoodP pa1 2 := ⟨rfl, .inl (by decide), by decide, fun _ _ a z ha hz => by injection ha with ha; injection hz with hz; subst ha hz; decide⟩
theorem good2 : GoodP pa2 3 := ⟨rfl, .inl (by decide), by decide, fun _ _ a z ha hz => by injection ha with ha; injection hz with hz; subst ha hz; decide⟩
theorem good3 : GoodP pa3 3 := ⟨rfl, .inl (by decide), by decide, fun _ _ a z ha hz => by injection ha with ha; injection hz with hz; subst ha hz; decide⟩
theorem pz1 : pzs pa1 = [(0, -100), (2, 121)] := by decide +kernel
theorem pz2 : pzs pa2 = [(0, -100), (1, -100), (2, 220)] := by decide +kernel
theorem pz3 : pzs pa3 = [(0, -1), (1, 3), (2, -2)] := by decide +kernel
theorem ok1 : payE pa1 = 0 := by decide +kernel
theorem ok2 : payE pa2 = 0 := by decide +kernel
theorem ok3 : payE pa3 = 0 := by decide +kernel
theorem bnd_good {ps : List Pay} {n : Nat} {p z : Int} (h : GoodP ps n) (hn : n ≤ 8) (h0 : payE ps = 0) (hp0 : 0 ≤ p) (hp : p ≤ 12) (hr : Root (pzs ps) ((10 ^ p.toNat : Nat) : Int) z) : BndOk ps p z 41 :=
  bnd_root (M := 13) h.len hn (h.span h0 hn) h0 (by decide) (by decide) (fun t ht => ⟨val_lt_of (h.am t ht), Nat.le_trans (h.am t ht) (by decide)⟩) hp0 hp hr
theorem bk1 : BndOk pa1 2 110 41 := bnd_good good1 (by decide) ok1 (by decide) (by decide) (by
  rw [pz1]
  exact root_of (a := 0) ⟨by decide, by decide, trivial⟩ (by decide +kernel) (by decide) (by decide) (by decide +kernel) (by decide +kernel))
theorem bk2 : BndOk pa2 4 10652 41 := bnd_good good2 (by decide) ok2 (by decide) (by decide) (by
  rw [pz2]
  exact root_of (a := 0) ⟨by decide, by decide, by decide, trivial⟩ (by decide +kernel) (by decide) (by decide) (by decide +kernel) (by decide +kernel))
theorem bv1 : bndV pa1 2 110 = .tuple #[(Value.agg #[Value.string ⟨List.toArray (fN (Rat.divInt 11 10))⟩, Value.string ⟨List.toArray (fD (Rat.divInt 11 10))⟩]), (Value.agg #[Value.string ⟨List.toArray (fN (Rat.divInt 11 10))⟩, Value.string ⟨List.toArray (fD (Rat.divInt 11 10))⟩]), .int .i64 0] := by
  unfold bndV
  rw [if_neg (fun h => h ok1), if_neg (by decide), if_neg (by rw [pz1]; decide +kernel)]
  rw [show topZ (pzs pa1) ((10 ^ (2 : Int).toNat : Nat) : Int) 110 = 110 by rw [pz1]; decide +kernel]
  rw [show Rat.divInt 110 ((10 ^ (2 : Int).toNat : Nat) : Int) = Rat.divInt 11 10 by decide +kernel]
theorem bv2 : bndV pa2 4 10652 = .tuple #[(Value.agg #[Value.string ⟨List.toArray (fN (Rat.divInt 10652 10000))⟩, Value.string ⟨List.toArray (fD (Rat.divInt 10652 10000))⟩]), (Value.agg #[Value.string ⟨List.toArray (fN (Rat.divInt 10653 10000))⟩, Value.string ⟨List.toArray (fD (Rat.divInt 10653 10000))⟩]), .int .i64 0] := by
  unfold bndV
  rw [if_neg (fun h => h ok2), if_neg (by decide), if_neg (by rw [pz2]; decide +kernel)]
  rw [show topZ (pzs pa2) ((10 ^ (4 : Int).toNat : Nat) : Int) 10652 = 10653 by rw [pz2]; decide +kernel]
  rfl
theorem bv3 : bndV pa3 4 0 = .tuple #[.agg #[.string ⟨#[]⟩, .string ⟨#[]⟩], .agg #[.string ⟨#[]⟩, .string ⟨#[]⟩], .int .i64 25] := by
  unfold bndV
  rw [if_neg (fun h => h ok3), if_neg (by decide), if_pos (by rw [pz3]; decide +kernel)]
theorem cv3 : chgV pa3 = .tuple #[.int .i64 2, .int .i64 0] := by
  unfold chgV
  rw [if_pos ok3, pz3, show chN (sumsL 0 [(0, -1), (1, 3), (2, -2)]) = 2 by decide +kernel]
  rfl

set_option maxHeartbeats 8000000 in
set_option maxRecDepth 100000 in
theorem wAwake47 : Ret 18 #[] (.bool true) := fun w hG => by
  have P0_m100 := Lib.hid (wPay (a := 0) (b := -100) (L := [45, 49, 48, 48]) (by decide) (by decide) (by decide +kernel))
  have P0_m1 := Lib.hid (wPay (a := 0) (b := -1) (L := [45, 49]) (by decide) (by decide) (by decide +kernel))
  have P1_m100 := Lib.hid (wPay (a := 1) (b := -100) (L := [45, 49, 48, 48]) (by decide) (by decide) (by decide +kernel))
  have P1_p3 := Lib.hid (wPay (a := 1) (b := 3) (L := [51]) (by decide) (by decide) (by decide +kernel))
  have P2_m2 := Lib.hid (wPay (a := 2) (b := -2) (L := [45, 50]) (by decide) (by decide) (by decide +kernel))
  have P2_p121 := Lib.hid (wPay (a := 2) (b := 121) (L := [49, 50, 49]) (by decide) (by decide) (by decide +kernel))
  have P2_p220 := Lib.hid (wPay (a := 2) (b := 220) (L := [50, 50, 48]) (by decide) (by decide) (by decide +kernel))
  have Q1 := Lib.hid (wRatio (a := 11) (b := 10) (r := Rat.divInt 11 10) (by decide) (by decide) (by decide) rfl)
  have Q2 := Lib.hid (wRatio (a := 10652) (b := 10000) (r := Rat.divInt 10652 10000) (by decide) (by decide) (by decide) rfl)
  have Q3 := Lib.hid (wRatio (a := 10653) (b := 10000) (r := Rat.divInt 10653 10000) (by decide) (by decide) (by decide) rfl)
  have B1 : ∀ A c w, Glob w → PL w A pa1 2 → Calls Tryz.prog 14 #[.slice A 2 c, .int .i64 2] w fun e w' => e = .returned (.tuple #[(Value.agg #[Value.string ⟨List.toArray (fN (Rat.divInt 11 10))⟩, Value.string ⟨List.toArray (fD (Rat.divInt 11 10))⟩]), (Value.agg #[Value.string ⟨List.toArray (fN (Rat.divInt 11 10))⟩, Value.string ⟨List.toArray (fD (Rat.divInt 11 10))⟩]), .int .i64 0]) ∧ Below w.heap.size w w' := fun A c w hG h => by
    have := mwBounds_ok A pa1 2 c 2 110 41 w hG h ok1 (by decide) (by decide) (by rw [pz1]; decide +kernel) bk1
    rwa [bv1] at this
  have B2 : ∀ A c w, Glob w → PL w A pa2 3 → Calls Tryz.prog 14 #[.slice A 3 c, .int .i64 4] w fun e w' => e = .returned (.tuple #[(Value.agg #[Value.string ⟨List.toArray (fN (Rat.divInt 10652 10000))⟩, Value.string ⟨List.toArray (fD (Rat.divInt 10652 10000))⟩]), (Value.agg #[Value.string ⟨List.toArray (fN (Rat.divInt 10653 10000))⟩, Value.string ⟨List.toArray (fD (Rat.divInt 10653 10000))⟩]), .int .i64 0]) ∧ Below w.heap.size w w' := fun A c w hG h => by
    have := mwBounds_ok A pa2 3 c 4 10652 41 w hG h ok2 (by decide) (by decide) (by rw [pz2]; decide +kernel) bk2
    rwa [bv2] at this
  have B3 : ∀ A c w, Glob w → PL w A pa3 3 → Calls Tryz.prog 14 #[.slice A 3 c, .int .i64 4] w fun e w' => e = .returned (.tuple #[.agg #[.string ⟨#[]⟩, .string ⟨#[]⟩], .agg #[.string ⟨#[]⟩, .string ⟨#[]⟩], .int .i64 25]) ∧ Below w.heap.size w w' := fun A c w hG h => by
    have := mwBounds_bad A pa3 3 c 4 0 w hG h (.inr (.inr (by rw [pz3]; decide +kernel)))
    rwa [bv3] at this
  have B4 : ∀ A c w, Glob w → PL w A pa3 3 → Calls Tryz.prog 27 #[.slice A 3 c] w fun e w' => e = .returned (.tuple #[.int .i64 2, .int .i64 0]) ∧ Below w.heap.size w w' := fun A c w hG h => by
    have := mwChanges A pa3 3 c w hG h
    rwa [cv3] at this
  generalize fN (Rat.divInt 11 10) = N1 at *
  generalize fD (Rat.divInt 11 10) = D1 at *
  generalize fN (Rat.divInt 10652 10000) = N2 at *
  generalize fD (Rat.divInt 10652 10000) = D2 at *
  generalize fN (Rat.divInt 10653 10000) = N3 at *
  generalize fD (Rat.divInt 10653 10000) = D3 at *
  have hb := Below.refl w.heap.size w
  go_enter Tryz.func18, Tryz.ntmps18
  go_wp2_with fail
  ((with_reducible refine (P0_m100.out.of hG hb).mono ?_); rintro e w11 ⟨rfl, hb11⟩)
  replace hb := bto hb hb11
  clear hb11
  go_wp2_with fail
  ((with_reducible refine (P2_p121.out.of hG hb).mono ?_); rintro e w12 ⟨rfl, hb12⟩)
  replace hb := bto hb hb12
  clear hb12
  have hbA := below_alloc w12 (.cells #[.int .i64 0, .string ⟨#[45, 49, 48, 48]⟩, .int .i64 2, .string ⟨#[49, 50, 49]⟩] 27)
  replace hb := bto hb hbA
  clear hbA
  go_wp2_with fail
  have hA12 : PayAt (w12.alloc (.cells #[.int .i64 0, .string ⟨#[45, 49, 48, 48]⟩, .int .i64 2, .string ⟨#[49, 50, 49]⟩] 27)) (some ⟨w12.heap.size, 0, none⟩) pa1 := payAt2 w12 ⟨0, [45, 49, 48, 48]⟩ ⟨2, [49, 50, 49]⟩ 27
  ((with_reducible refine (B1 (some ⟨w12.heap.size, 0, none⟩) 2 _ (hG.below hb) (good1.pl hA12)).mono ?_); rintro e w13 ⟨rfl, hb13⟩)
  replace hb := bto hb hb13
  clear hb13
  clear hA12
  have x1 := FBox.new w13 (.string ⟨N1.toArray⟩) (.string ⟨D1.toArray⟩) 30
  have hbA := below_alloc w13 (.cells #[.string ⟨N1.toArray⟩, .string ⟨D1.toArray⟩] 30)
  replace hb := bto hb hbA
  clear hbA
  have x2 := FBox.new (w13.alloc (.cells #[.string ⟨N1.toArray⟩, .string ⟨D1.toArray⟩] 30)) (.string ⟨N1.toArray⟩) (.string ⟨D1.toArray⟩) 30
  have hbA := below_alloc (w13.alloc (.cells #[.string ⟨N1.toArray⟩, .string ⟨D1.toArray⟩] 30)) (.cells #[.string ⟨N1.toArray⟩, .string ⟨D1.toArray⟩] 30)
  replace x1 := x1.below hbA
  replace hb := bto hb hbA
  clear hbA
  simp only [World.size_alloc] at x1 x2
  go_wp2_with fail
  ((with_reducible refine (P0_m100.out.of hG hb).mono ?_); rintro e w14 ⟨rfl, hb14⟩)
  replace x1 := x1.below hb14
  replace x2 := x2.below hb14
  replace hb := bto hb hb14
  clear hb14
  go_wp2_with fail
  ((with_reducible refine (P1_m100.out.of hG hb).mono ?_); rintro e w15 ⟨rfl, hb15⟩)
  replace x1 := x1.below hb15
  replace x2 := x2.below hb15
  replace hb := bto hb hb15
  clear hb15
  go_wp2_with fail
  ((with_reducible refine (P2_p220.out.of hG hb).mono ?_); rintro e w16 ⟨rfl, hb16⟩)
  replace x1 := x1.below hb16
  replace x2 := x2.below hb16
  replace hb := bto hb hb16
  clear hb16
  have hbA := below_alloc w16 (.cells #[.int .i64 0, .string ⟨#[45, 49, 48, 48]⟩, .int .i64 1, .string ⟨#[45, 49, 48, 48]⟩, .int .i64 2, .string ⟨#[50, 50, 48]⟩] 27)
  replace x1 := x1.below hbA
  replace x2 := x2.below hbA
  replace hb := bto hb hbA
  clear hbA
  go_wp2_with fail
  have hA16 : PayAt (w16.alloc (.cells #[.int .i64 0, .string ⟨#[45, 49, 48, 48]⟩, .int .i64 1, .string ⟨#[45, 49, 48, 48]⟩, .int .i64 2, .string ⟨#[50, 50, 48]⟩] 27)) (some ⟨w16.heap.size, 0, none⟩) pa2 := payAt3 w16 ⟨0, [45, 49, 48, 48]⟩ ⟨1, [45, 49, 48, 48]⟩ ⟨2, [50, 50, 48]⟩ 27
  ((with_reducible refine (B2 (some ⟨w16.heap.size, 0, none⟩) 3 _ (hG.below hb) (good2.pl hA16)).mono ?_); rintro e w17 ⟨rfl, hb17⟩)
  replace x1 := x1.below hb17
  replace x2 := x2.below hb17
  replace hb := bto hb hb17
  clear hb17
  clear hA16
  have x4 := FBox.new w17 (.string ⟨N2.toArray⟩) (.string ⟨D2.toArray⟩) 30
  have hbA := below_alloc w17 (.cells #[.string ⟨N2.toArray⟩, .string ⟨D2.toArray⟩] 30)
  replace x1 := x1.below hbA
  replace x2 := x2.below hbA
  replace hb := bto hb hbA
  clear hbA
  have x5 := FBox.new (w17.alloc (.cells #[.string ⟨N2.toArray⟩, .string ⟨D2.toArray⟩] 30)) (.string ⟨N3.toArray⟩) (.string ⟨D3.toArray⟩) 30
  have hbA := below_alloc (w17.alloc (.cells #[.string ⟨N2.toArray⟩, .string ⟨D2.toArray⟩] 30)) (.cells #[.string ⟨N3.toArray⟩, .string ⟨D3.toArray⟩] 30)
  replace x1 := x1.below hbA
  replace x2 := x2.below hbA
  replace x4 := x4.below hbA
  replace hb := bto hb hbA
  clear hbA
  simp only [World.size_alloc] at x1 x2 x4 x5
  go_wp2_with fail
  ((with_reducible refine (P0_m1.out.of hG hb).mono ?_); rintro e w18 ⟨rfl, hb18⟩)
  replace x1 := x1.below hb18
  replace x2 := x2.below hb18
  replace x4 := x4.below hb18
  replace x5 := x5.below hb18
  replace hb := bto hb hb18
  clear hb18
  go_wp2_with fail
  ((with_reducible refine (P1_p3.out.of hG hb).mono ?_); rintro e w19 ⟨rfl, hb19⟩)
  replace x1 := x1.below hb19
  replace x2 := x2.below hb19
  replace x4 := x4.below hb19
  replace x5 := x5.below hb19
  replace hb := bto hb hb19
  clear hb19
  go_wp2_with fail
  ((with_reducible refine (P2_m2.out.of hG hb).mono ?_); rintro e w20 ⟨rfl, hb20⟩)
  replace x1 := x1.below hb20
  replace x2 := x2.below hb20
  replace x4 := x4.below hb20
  replace x5 := x5.below hb20
  replace hb := bto hb hb20
  clear hb20
  have hbA := below_alloc w20 (.cells #[.int .i64 0, .string ⟨#[45, 49]⟩, .int .i64 1, .string ⟨#[51]⟩, .int .i64 2, .string ⟨#[45, 50]⟩] 27)
  replace x1 := x1.below hbA
  replace x2 := x2.below hbA
  replace x4 := x4.below hbA
  replace x5 := x5.below hbA
  replace hb := bto hb hbA
  clear hbA
  go_wp2_with fail
  have hA20 : PayAt (w20.alloc (.cells #[.int .i64 0, .string ⟨#[45, 49]⟩, .int .i64 1, .string ⟨#[51]⟩, .int .i64 2, .string ⟨#[45, 50]⟩] 27)) (some ⟨w20.heap.size, 0, none⟩) pa3 := payAt3 w20 ⟨0, [45, 49]⟩ ⟨1, [51]⟩ ⟨2, [45, 50]⟩ 27
  ((with_reducible refine (B3 (some ⟨w20.heap.size, 0, none⟩) 3 _ (hG.below hb) (good3.pl hA20)).mono ?_); rintro e w21 ⟨rfl, hb21⟩)
  replace x1 := x1.below hb21
  replace x2 := x2.below hb21
  replace x4 := x4.below hb21
  replace x5 := x5.below hb21
  replace hb := bto hb hb21
  clear hb21
  clear hA20
  have x7 := FBox.new w21 (.string ⟨#[]⟩) (.string ⟨#[]⟩) 30
  have hbA := below_alloc w21 (.cells #[.string ⟨#[]⟩, .string ⟨#[]⟩] 30)
  replace x1 := x1.below hbA
  replace x2 := x2.below hbA
  replace x4 := x4.below hbA
  replace x5 := x5.below hbA
  replace hb := bto hb hbA
  clear hbA
  have x8 := FBox.new (w21.alloc (.cells #[.string ⟨#[]⟩, .string ⟨#[]⟩] 30)) (.string ⟨#[]⟩) (.string ⟨#[]⟩) 30
  have hbA := below_alloc (w21.alloc (.cells #[.string ⟨#[]⟩, .string ⟨#[]⟩] 30)) (.cells #[.string ⟨#[]⟩, .string ⟨#[]⟩] 30)
  replace x1 := x1.below hbA
  replace x2 := x2.below hbA
  replace x4 := x4.below hbA
  replace x5 := x5.below hbA
  replace x7 := x7.below hbA
  replace hb := bto hb hbA
  clear hbA
  simp only [World.size_alloc] at x1 x2 x4 x5 x7 x8
  go_wp2_with fail
  ((with_reducible refine (P0_m1.out.of hG hb).mono ?_); rintro e w22 ⟨rfl, hb22⟩)
  replace x1 := x1.below hb22
  replace x2 := x2.below hb22
  replace x4 := x4.below hb22
  replace x5 := x5.below hb22
  replace x7 := x7.below hb22
  replace x8 := x8.below hb22
  replace hb := bto hb hb22
  clear hb22
  go_wp2_with fail
  ((with_reducible refine (P1_p3.out.of hG hb).mono ?_); rintro e w23 ⟨rfl, hb23⟩)
  replace x1 := x1.below hb23
  replace x2 := x2.below hb23
  replace x4 := x4.below hb23
  replace x5 := x5.below hb23
  replace x7 := x7.below hb23
  replace x8 := x8.below hb23
  replace hb := bto hb hb23
  clear hb23
  go_wp2_with fail
  ((with_reducible refine (P2_m2.out.of hG hb).mono ?_); rintro e w24 ⟨rfl, hb24⟩)
  replace x1 := x1.below hb24
  replace x2 := x2.below hb24
  replace x4 := x4.below hb24
  replace x5 := x5.below hb24
  replace x7 := x7.below hb24
  replace x8 := x8.below hb24
  replace hb := bto hb hb24
  clear hb24
  have hbA := below_alloc w24 (.cells #[.int .i64 0, .string ⟨#[45, 49]⟩, .int .i64 1, .string ⟨#[51]⟩, .int .i64 2, .string ⟨#[45, 50]⟩] 27)
  replace x1 := x1.below hbA
  replace x2 := x2.below hbA
  replace x4 := x4.below hbA
  replace x5 := x5.below hbA
  replace x7 := x7.below hbA
  replace x8 := x8.below hbA
  replace hb := bto hb hbA
  clear hbA
  go_wp2_with fail
  have hA24 : PayAt (w24.alloc (.cells #[.int .i64 0, .string ⟨#[45, 49]⟩, .int .i64 1, .string ⟨#[51]⟩, .int .i64 2, .string ⟨#[45, 50]⟩] 27)) (some ⟨w24.heap.size, 0, none⟩) pa3 := payAt3 w24 ⟨0, [45, 49]⟩ ⟨1, [51]⟩ ⟨2, [45, 50]⟩ 27
  ((with_reducible refine (B4 (some ⟨w24.heap.size, 0, none⟩) 3 _ (hG.below hb) (good3.pl hA24)).mono ?_); rintro e w25 ⟨rfl, hb25⟩)
  replace x1 := x1.below hb25
  replace x2 := x2.below hb25
  replace x4 := x4.below hb25
  replace x5 := x5.below hb25
  replace x7 := x7.below hb25
  replace x8 := x8.below hb25
  replace hb := bto hb hb25
  clear hb25
  clear hA24
  go_wp2_with fail
  refine wp_region_kept (by kernel_rfl) (by kernel_rfl) ?_
  refine kept_val _ (fun _ => rfl) (fun ρ wz hw => by go_simp; first | done | with_reducible rfl) ?_
  simp only [Act.put, List.setIfInBounds_toArray, List.set_cons_zero, List.set_cons_succ, Nat.reduceAdd]
  refine kept_val _ (fun _ => rfl) (fun ρ wz hw => by go_simp; first | done | with_reducible rfl) ?_
  simp only [Act.put, List.setIfInBounds_toArray, List.set_cons_zero, List.set_cons_succ, Nat.reduceAdd]
  refine kept_val _ (fun _ => rfl) (fun ρ wz hw => by go_simp; first | done | with_reducible rfl) ?_
  simp only [Act.put, List.setIfInBounds_toArray, List.set_cons_zero, List.set_cons_succ, Nat.reduceAdd]
  refine kept_val _ (fun _ => rfl) (fun ρ wz hw => by go_simp; first | done | with_reducible rfl) ?_
  simp only [Act.put, List.setIfInBounds_toArray, List.set_cons_zero, List.set_cons_succ, Nat.reduceAdd]
  refine kept_val _ (fun _ => rfl) (fun ρ wz hw => by go_simp; first | done | with_reducible rfl) ?_
  simp only [Act.put, List.setIfInBounds_toArray, List.set_cons_zero, List.set_cons_succ, Nat.reduceAdd]
  refine kept_val _ (fun _ => rfl) (fun ρ wz hw => by go_simp; first | done | with_reducible rfl) ?_
  simp only [Act.put, List.setIfInBounds_toArray, List.set_cons_zero, List.set_cons_succ, Nat.reduceAdd]
  refine kept_val _ (fun _ => rfl) (fun ρ wz hw => by go_simp; first | done | with_reducible rfl) ?_
  simp only [Act.put, List.setIfInBounds_toArray, List.set_cons_zero, List.set_cons_succ, Nat.reduceAdd]
  refine kept_val _ (fun _ => rfl) (fun ρ wz hw => by go_simp; first | done | with_reducible rfl) ?_
  simp only [Act.put, List.setIfInBounds_toArray, List.set_cons_zero, List.set_cons_succ, Nat.reduceAdd]
  refine kept_val _ (fun _ => rfl) (fun ρ wz hw => by go_simp; first | done | with_reducible rfl) ?_
  simp only [Act.put, List.setIfInBounds_toArray, List.set_cons_zero, List.set_cons_succ, Nat.reduceAdd]
  refine kept_val _ (fun _ => rfl) (fun ρ wz hw => by go_simp; first | done | with_reducible rfl) ?_
  simp only [Act.put, List.setIfInBounds_toArray, List.set_cons_zero, List.set_cons_succ, Nat.reduceAdd]
  refine kept_val _ (fun _ => rfl) (fun ρ wz hw => by go_simp; first | done | with_reducible rfl) ?_
  simp only [Act.put, List.setIfInBounds_toArray, List.set_cons_zero, List.set_cons_succ, Nat.reduceAdd]
  refine kept_val _ (fun _ => rfl) (fun ρ wz hw => by go_simp; first | done | with_reducible rfl) ?_
  simp only [Act.put, List.setIfInBounds_toArray, List.set_cons_zero, List.set_cons_succ, Nat.reduceAdd]
  refine kept_val _ (fun _ => rfl) (fun ρ wz hw => by go_simp; first | done | with_reducible rfl) ?_
  simp only [Act.put, List.setIfInBounds_toArray, List.set_cons_zero, List.set_cons_succ, Nat.reduceAdd]
  refine kept_val _ (fun _ => rfl) (fun ρ wz hw => by go_simp; first | done | with_reducible rfl) ?_
  simp only [Act.put, List.setIfInBounds_toArray, List.set_cons_zero, List.set_cons_succ, Nat.reduceAdd]
  refine kept_val _ (fun _ => rfl) (fun ρ wz hw => by go_simp; first | done | with_reducible rfl) ?_
  simp only [Act.put, List.setIfInBounds_toArray, List.set_cons_zero, List.set_cons_succ, Nat.reduceAdd]
  refine kept_val _ (fun _ => rfl) (fun ρ wz hw => by have q0 := (x1.below hw).c0; have q1 := (x1.below hw).c1; go_simp; first | done | with_reducible rfl) ?_
  simp only [Act.put, List.setIfInBounds_toArray, List.set_cons_zero, List.set_cons_succ, Nat.reduceAdd]
  refine kept_call _ _ _ (fun _ => rfl) (fun ρ wz hw => by go_simp; first | done | with_reducible rfl) (fun wz hw => Q1.out.of hG (bto hb hw)) ?_
  simp only [Act.put, List.setIfInBounds_toArray, List.set_cons_zero, List.set_cons_succ, Nat.reduceAdd]
  refine kept_val _ (fun _ => rfl) (fun ρ wz hw => by go_simp; first | done | with_reducible rfl) ?_
  simp only [Act.put, List.setIfInBounds_toArray, List.set_cons_zero, List.set_cons_succ, Nat.reduceAdd]
  refine kept_val _ (fun _ => rfl) (fun ρ wz hw => by go_simp; first | done | with_reducible rfl) ?_
  simp only [Act.put, List.setIfInBounds_toArray, List.set_cons_zero, List.set_cons_succ, Nat.reduceAdd]
  refine kept_val _ (fun _ => rfl) (fun ρ wz hw => by go_simp; first | done | with_reducible rfl) ?_
  simp only [Act.put, List.setIfInBounds_toArray, List.set_cons_zero, List.set_cons_succ, Nat.reduceAdd]
  refine kept_val _ (fun _ => rfl) (fun ρ wz hw => by have q0 := (x2.below hw).c0; have q1 := (x2.below hw).c1; go_simp; first | done | with_reducible rfl) ?_
  simp only [Act.put, List.setIfInBounds_toArray, List.set_cons_zero, List.set_cons_succ, Nat.reduceAdd]
  refine kept_val _ (fun _ => rfl) (fun ρ wz hw => by have q0 := (x1.below hw).c0; have q1 := (x1.below hw).c1; go_simp; first | done | with_reducible rfl) ?_
  simp only [Act.put, List.setIfInBounds_toArray, List.set_cons_zero, List.set_cons_succ, Nat.reduceAdd]
  refine kept_val _ (fun _ => rfl) (fun ρ wz hw => by go_simp; first | done | with_reducible rfl) ?_
  simp only [Act.put, List.setIfInBounds_toArray, List.set_cons_zero, List.set_cons_succ, Nat.reduceAdd]
  refine kept_val _ (fun _ => rfl) (fun ρ wz hw => by go_simp; first | done | with_reducible rfl) ?_
  simp only [Act.put, List.setIfInBounds_toArray, List.set_cons_zero, List.set_cons_succ, Nat.reduceAdd]
  refine kept_val _ (fun _ => rfl) (fun ρ wz hw => by go_simp; first | done | with_reducible rfl) ?_
  simp only [Act.put, List.setIfInBounds_toArray, List.set_cons_zero, List.set_cons_succ, Nat.reduceAdd]
  refine kept_val _ (fun _ => rfl) (fun ρ wz hw => by have q0 := (x4.below hw).c0; have q1 := (x4.below hw).c1; go_simp; first | done | with_reducible rfl) ?_
  simp only [Act.put, List.setIfInBounds_toArray, List.set_cons_zero, List.set_cons_succ, Nat.reduceAdd]
  refine kept_call _ _ _ (fun _ => rfl) (fun ρ wz hw => by go_simp; first | done | with_reducible rfl) (fun wz hw => Q2.out.of hG (bto hb hw)) ?_
  simp only [Act.put, List.setIfInBounds_toArray, List.set_cons_zero, List.set_cons_succ, Nat.reduceAdd]
  refine kept_val _ (fun _ => rfl) (fun ρ wz hw => by go_simp; first | done | with_reducible rfl) ?_
  simp only [Act.put, List.setIfInBounds_toArray, List.set_cons_zero, List.set_cons_succ, Nat.reduceAdd]
  refine kept_val _ (fun _ => rfl) (fun ρ wz hw => by go_simp; first | done | with_reducible rfl) ?_
  simp only [Act.put, List.setIfInBounds_toArray, List.set_cons_zero, List.set_cons_succ, Nat.reduceAdd]
  refine kept_val _ (fun _ => rfl) (fun ρ wz hw => by go_simp; first | done | with_reducible rfl) ?_
  simp only [Act.put, List.setIfInBounds_toArray, List.set_cons_zero, List.set_cons_succ, Nat.reduceAdd]
  refine kept_val _ (fun _ => rfl) (fun ρ wz hw => by have q0 := (x5.below hw).c0; have q1 := (x5.below hw).c1; go_simp; first | done | with_reducible rfl) ?_
  simp only [Act.put, List.setIfInBounds_toArray, List.set_cons_zero, List.set_cons_succ, Nat.reduceAdd]
  refine kept_call _ _ _ (fun _ => rfl) (fun ρ wz hw => by go_simp; first | done | with_reducible rfl) (fun wz hw => Q3.out.of hG (bto hb hw)) ?_
  simp only [Act.put, List.setIfInBounds_toArray, List.set_cons_zero, List.set_cons_succ, Nat.reduceAdd]
  refine kept_val _ (fun _ => rfl) (fun ρ wz hw => by go_simp; first | done | with_reducible rfl) ?_
  simp only [Act.put, List.setIfInBounds_toArray, List.set_cons_zero, List.set_cons_succ, Nat.reduceAdd]
  refine kept_val _ (fun _ => rfl) (fun ρ wz hw => by go_simp; first | done | with_reducible rfl) ?_
  simp only [Act.put, List.setIfInBounds_toArray, List.set_cons_zero, List.set_cons_succ, Nat.reduceAdd]
  refine kept_val _ (fun _ => rfl) (fun ρ wz hw => by go_simp; first | done | with_reducible rfl) ?_
  simp only [Act.put, List.setIfInBounds_toArray, List.set_cons_zero, List.set_cons_succ, Nat.reduceAdd]
  refine kept_val _ (fun _ => rfl) (fun ρ wz hw => by go_simp; first | done | with_reducible rfl) ?_
  simp only [Act.put, List.setIfInBounds_toArray, List.set_cons_zero, List.set_cons_succ, Nat.reduceAdd]
  refine kept_val _ (fun _ => rfl) (fun ρ wz hw => by go_simp; first | done | with_reducible rfl) ?_
  simp only [Act.put, List.setIfInBounds_toArray, List.set_cons_zero, List.set_cons_succ, Nat.reduceAdd]
  refine kept_val _ (fun _ => rfl) (fun ρ wz hw => by go_simp; first | done | with_reducible rfl) ?_
  simp only [Act.put, List.setIfInBounds_toArray, List.set_cons_zero, List.set_cons_succ, Nat.reduceAdd]
  refine kept_val _ (fun _ => rfl) (fun ρ wz hw => by go_simp; first | done | with_reducible rfl) ?_
  simp only [Act.put, List.setIfInBounds_toArray, List.set_cons_zero, Nat.reduceAdd]
  refine kept_end (fun ρ w99 hF => ?_)
  replace hb := bto hb hF.below
  go_wp2
  go_ret
  exact ⟨rfl, hb⟩
end Go.Proofs.YtolbojchdlojnaaGreatDoor
