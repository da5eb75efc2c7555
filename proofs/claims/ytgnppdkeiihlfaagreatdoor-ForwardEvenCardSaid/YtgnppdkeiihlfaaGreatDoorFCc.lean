/- Cc: refp refq refr refs reft refu refv refw refx refy refz rfa rfb rfc rfd rfe -/
import Derived.Test.YtgnppdkeiihlfaaGreatDoorFCb
import Derived.Test.YtgnppdkeiihlfaaGreatDoorFBd
/- trancheref02: one, zero, exact, Raw. -/
namespace Go.Proofs.YtgnppdkeiihlfaaGreatDoor
open Go.RowKit Num
set_option maxRecDepth 100000 in
theorem sOne : Ret 152 #[] (.string ⟨(canon 1).toArray⟩) := fun w _ => by
  have H := Lib.hid (rof_any 1)
  generalize canon 1 = o at *
  go_enter Tryz.func152, Tryz.ntmps152
  go_wp2_with fail
  ((with_reducible refine (H.out _ (by omega) (by omega)).mono ?_); rintro e w' ⟨rfl, rfl⟩)
  go_wp2
  go_ret
  exact ⟨rfl, Below.refl _ _⟩
section
variable {l l' : List UInt8}
set_option maxRecDepth 100000 in
theorem sZero (hl : l.length ≤ 1000000) {b : Bool} (e : decide (val l = 0) = b) : Ret 157 #[.string ⟨l.toArray⟩] (.bool b) := fun w hG => by
  have c := qCompare (l := l) (l' := []) hl (by decide) rfl
  have hc : (cmpZ (val l) (val []) == 0) = b := by
    rw [← e, val_nil]; unfold cmpZ
    by_cases h : val l = 0
    · rw [h]; rfl
    · rw [decide_eq_false h, beq_eq_false_iff_ne]; split
      · decide
      · split
        · decide
        · omega
  have HC := Lib.hid c
  generalize cmpZ (val l) (val []) = z at *
  clear c e
  go_enter Tryz.func157, Tryz.ntmps157
  go_wp2_with fail
  ((with_reducible refine (HC.out.of hG (Below.refl _ _)).mono ?_); rintro e w1 ⟨rfl, hb1⟩)
  go_wp2
  go_ret
  exact ⟨rfl, hb1⟩
set_option maxRecDepth 100000 in
theorem sExact (hl : l.length ≤ 4000) (hl' : l'.length ≤ 4000) (h0 : val l' ≠ 0) {q : Int} (e : divZ (val l) (val l') = q) : Ret 212 #[.string ⟨l.toArray⟩, .string ⟨l'.toArray⟩] (.string ⟨(canon q).toArray⟩) := fun w hG => by
  have c := qDiv hl hl' h0 e rfl
  have HC := Lib.hid c
  generalize canon (modZ (val l) (val l')) = r at *
  generalize canon q = t at *
  clear c e
  go_enter Tryz.func212, Tryz.ntmps212
  go_wp2_with fail
  ((with_reducible refine (HC.out.of hG (Below.refl _ _)).mono ?_); rintro e w1 ⟨rfl, hb1⟩)
  go_wp2
  go_ret
  exact ⟨rfl, hb1⟩
end
end Go.Proofs.YtgnppdkeiihlfaaGreatDoor
/- trancheref02: Raw. -/
namespace Go.Proofs.YtgnppdkeiihlfaaGreatDoor
open Go.RowKit Num
section
variable {l l' : List UInt8}
set_option maxHeartbeats 1000000 in
set_option maxRecDepth 100000 in
theorem sRaw0 (_hl : l.length ≤ 1000000) (hl' : l'.length ≤ 1000000) (h0 : val l' = 0) : Ret 148 #[(Value.agg #[Value.string ⟨List.toArray l⟩, Value.string ⟨List.toArray l'⟩])] (.tuple #[.string ⟨l.toArray⟩, .string ⟨(canon 1).toArray⟩]) := fun w hG => by
  have cz := sZero (l := l') hl' (b := true) (by exact decide_eq_true h0)
  have HZ := Lib.hid cz
  have hx1 := FBox.new w (.string ⟨l.toArray⟩) (.string ⟨l'.toArray⟩) 25
  have hb1 := below_alloc w (.cells #[.string ⟨l.toArray⟩, .string ⟨l'.toArray⟩] 25)
  have q0 := hx1.c0
  have q1 := hx1.c1
  clear cz
  go_enter Tryz.func148, Tryz.ntmps148
  go_wp2_with fail
  ((with_reducible refine (HZ.out.of hG hb1).mono ?_); rintro e w1 ⟨rfl, hb2⟩)
  have x1 := hx1.below hb2
  have hb := bto hb1 hb2
  have q0 := x1.c0
  have q1 := x1.c1
  clear hx1 hb1 hb2
  go_wp2_with fail
  refine wp_region_kept (by kernel_rfl) (by kernel_rfl) ?_
  refine kept_val _ (fun _ => rfl) (fun ρ w hw => by go_simp; first | done | with_reducible rfl) ?_
  simp only [Act.put, List.setIfInBounds_toArray, List.set_cons_zero, List.set_cons_succ, Nat.reduceAdd]
  refine kept_val _ (fun _ => rfl) (fun ρ w hw => by have q0 := (x1.below hw).c0; have q1 := (x1.below hw).c1; go_simp; first | done | with_reducible rfl) ?_
  simp only [Act.put, List.setIfInBounds_toArray, List.set_cons_zero, List.set_cons_succ, Nat.reduceAdd]
  refine kept_call _ _ _ (fun _ => rfl) (fun ρ w hw => by go_simp; first | done | with_reducible rfl) (fun w hw => sOne.of hG (bto hb hw)) ?_
  iterate 2
    simp only [Act.put, List.setIfInBounds_toArray, List.set_cons_zero, List.set_cons_succ, Nat.reduceAdd]
    refine kept_val _ (fun _ => rfl) (fun ρ w hw => by go_simp; first | done | with_reducible rfl) ?_
  simp only [Act.put, List.setIfInBounds_toArray, List.set_cons_zero, List.set_cons_succ, Nat.reduceAdd]
  refine kept_end (fun ρ w3 hF => ?_)
  have hb3 := bto hb hF.below
  clear hF
  go_wp2
  go_ret2
  exact ⟨rfl, hb3⟩
set_option maxHeartbeats 1000000 in
set_option maxRecDepth 100000 in
theorem sRawN (hl : l.length ≤ 1000000) (hl' : l'.length ≤ 1000000) (h0 : val l' < 0) : Ret 148 #[(Value.agg #[Value.string ⟨List.toArray l⟩, Value.string ⟨List.toArray l'⟩])] (.tuple #[.string ⟨(canon (-val l)).toArray⟩, .string ⟨(canon (-val l')).toArray⟩]) := fun w hG => by
  have cz := sZero (l := l') hl' (b := false) (by exact decide_eq_false (by omega))
  have HZ := Lib.hid cz
  have hx1 := FBox.new w (.string ⟨l.toArray⟩) (.string ⟨l'.toArray⟩) 25
  have hb1 := below_alloc w (.cells #[.string ⟨l.toArray⟩, .string ⟨l'.toArray⟩] 25)
  have q0 := hx1.c0
  have q1 := hx1.c1
  clear cz
  have cc := qCompare (l := l') (l' := []) hl' (by decide) (c := -1) (by rw [val_nil]; unfold cmpZ; rw [if_pos h0])
  have HC := Lib.hid cc
  clear cc
  go_enter Tryz.func148, Tryz.ntmps148
  go_wp2_with fail
  ((with_reducible refine (HZ.out.of hG hb1).mono ?_); rintro e w1 ⟨rfl, hb2⟩)
  have x1 := hx1.below hb2
  have hb := bto hb1 hb2
  have q0 := x1.c0
  have q1 := x1.c1
  clear hx1 hb1 hb2
  go_wp2_with fail
  ((with_reducible refine (HC.out.of hG hb).mono ?_); rintro e w2 ⟨rfl, hb2⟩)
  have x1 := x1.below hb2
  have hb := bto hb hb2
  have q0 := x1.c0
  have q1 := x1.c1
  clear hb2
  go_wp2_with fail
  refine wp_region_kept (by kernel_rfl) (by kernel_rfl) ?_
  refine kept_val _ (fun _ => rfl) (fun ρ w hw => by go_simp; first | done | with_reducible rfl) ?_
  simp only [Act.put, List.setIfInBounds_toArray, List.set_cons_zero, List.set_cons_succ, Nat.reduceAdd]
  refine kept_val _ (fun _ => rfl) (fun ρ w hw => by have q0 := (x1.below hw).c0; have q1 := (x1.below hw).c1; go_simp; first | done | with_reducible rfl) ?_
  simp only [Act.put, List.setIfInBounds_toArray, List.set_cons_zero, List.set_cons_succ, Nat.reduceAdd]
  refine kept_call _ _ _ (fun _ => rfl) (fun ρ w hw => by go_simp; first | done | with_reducible rfl) (fun w hw => (qNeg (l := l) hl rfl).of hG (bto hb hw)) ?_
  simp only [Act.put, List.setIfInBounds_toArray, List.set_cons_zero, List.set_cons_succ, Nat.reduceAdd]
  refine kept_val _ (fun _ => rfl) (fun ρ w hw => by go_simp; first | done | with_reducible rfl) ?_
  simp only [Act.put, List.setIfInBounds_toArray, List.set_cons_zero, List.set_cons_succ, Nat.reduceAdd]
  refine kept_val _ (fun _ => rfl) (fun ρ w hw => by have q0 := (x1.below hw).c0; have q1 := (x1.below hw).c1; go_simp; first | done | with_reducible rfl) ?_
  simp only [Act.put, List.setIfInBounds_toArray, List.set_cons_zero, List.set_cons_succ, Nat.reduceAdd]
  refine kept_call _ _ _ (fun _ => rfl) (fun ρ w hw => by go_simp; first | done | with_reducible rfl) (fun w hw => (qNeg (l := l') hl' rfl).of hG (bto hb hw)) ?_
  iterate 2
    simp only [Act.put, List.setIfInBounds_toArray, List.set_cons_zero, List.set_cons_succ, Nat.reduceAdd]
    refine kept_val _ (fun _ => rfl) (fun ρ w hw => by go_simp; first | done | with_reducible rfl) ?_
  simp only [Act.put, List.setIfInBounds_toArray, List.set_cons_zero, List.set_cons_succ, Nat.reduceAdd]
  refine kept_end (fun ρ w3 hF => ?_)
  have hb3 := bto hb hF.below
  clear hF
  go_wp2
  go_ret2
  exact ⟨rfl, hb3⟩
set_option maxHeartbeats 1000000 in
set_option maxRecDepth 100000 in
theorem sRawP (_hl : l.length ≤ 1000000) (hl' : l'.length ≤ 1000000) (h0 : 0 < val l') : Ret 148 #[(Value.agg #[Value.string ⟨List.toArray l⟩, Value.string ⟨List.toArray l'⟩])] (.tuple #[.string ⟨l.toArray⟩, .string ⟨l'.toArray⟩]) := fun w hG => by
  have cz := sZero (l := l') hl' (b := false) (by exact decide_eq_false (by omega))
  have HZ := Lib.hid cz
  have hx1 := FBox.new w (.string ⟨l.toArray⟩) (.string ⟨l'.toArray⟩) 25
  have hb1 := below_alloc w (.cells #[.string ⟨l.toArray⟩, .string ⟨l'.toArray⟩] 25)
  have q0 := hx1.c0
  have q1 := hx1.c1
  clear cz
  have cc := qCompare (l := l') (l' := []) hl' (by decide) (c := 1) (by rw [val_nil]; unfold cmpZ; rw [if_neg (by omega), if_pos h0])
  have HC := Lib.hid cc
  clear cc
  go_enter Tryz.func148, Tryz.ntmps148
  go_wp2_with fail
  ((with_reducible refine (HZ.out.of hG hb1).mono ?_); rintro e w1 ⟨rfl, hb2⟩)
  have x1 := hx1.below hb2
  have hb := bto hb1 hb2
  have q0 := x1.c0
  have q1 := x1.c1
  clear hx1 hb1 hb2
  go_wp2_with fail
  ((with_reducible refine (HC.out.of hG hb).mono ?_); rintro e w2 ⟨rfl, hb2⟩)
  have x1 := x1.below hb2
  have hb := bto hb hb2
  have q0 := x1.c0
  have q1 := x1.c1
  clear hb2
  go_wp2_with fail
  refine wp_region_kept (by kernel_rfl) (by kernel_rfl) ?_
  iterate 2
    refine kept_val _ (fun _ => rfl) (fun ρ w hw => by go_simp; first | done | with_reducible rfl) ?_
    simp only [Act.put, List.setIfInBounds_toArray, List.set_cons_zero, List.set_cons_succ, Nat.reduceAdd]
    refine kept_val _ (fun _ => rfl) (fun ρ w hw => by have q0 := (x1.below hw).c0; have q1 := (x1.below hw).c1; go_simp; first | done | with_reducible rfl) ?_
    simp only [Act.put, List.setIfInBounds_toArray, List.set_cons_zero, List.set_cons_succ, Nat.reduceAdd]
  iterate 2
    refine kept_val _ (fun _ => rfl) (fun ρ w hw => by go_simp; first | done | with_reducible rfl) ?_
    simp only [Act.put, List.setIfInBounds_toArray, List.set_cons_zero, List.set_cons_succ, Nat.reduceAdd]
  refine kept_end (fun ρ w3 hF => ?_)
  have hb3 := bto hb hF.below
  clear hF
  go_wp2
  go_ret2
  exact ⟨rfl, hb3⟩
end
def rawN (l l' : List UInt8) : List UInt8 := if val l' < 0 then canon (-val l) else l
def rawD (l' : List UInt8) : List UInt8 := if val l' = 0 then canon 1 else if val l' < 0 then canon (-val l') else l'
theorem rawD_pos (l' : List UInt8) : 0 < val (rawD l') := by
  unfold rawD; split
  · rw [val_canon]; decide
  · split
    · rw [val_canon]; omega
    · omega
theorem raw_fv (l l' : List UInt8) : Rat.divInt (val (rawN l l')) (val (rawD l')) = fv l l' := by
  unfold rawN rawD fv den1
  by_cases h0 : val l' = 0
  · rw [if_pos h0, if_neg (by omega), val_canon]; simp [h0]
  · rw [if_neg h0]
    by_cases h1 : val l' < 0
    · rw [if_pos h1, if_pos h1, val_canon, val_canon, Rat.neg_divInt_neg]; simp [h0]
    · rw [if_neg h1, if_neg h1]; simp [h0]
theorem rawN_len (l l' : List UInt8) : (rawN l l').length ≤ l.length + 1 := by
  unfold rawN; split
  · exact canon_len_le _ _ (by rw [Int.natAbs_neg]; exact val_lt l)
  · omega
theorem rawD_len (l' : List UInt8) : (rawD l').length ≤ l'.length + 1 := by
  unfold rawD; split
  · exact Nat.le_trans (show (canon 1).length ≤ 1 by decide) (by omega)
  · split
    · exact canon_len_le _ _ (by rw [Int.natAbs_neg]; exact val_lt l')
    · omega
theorem sRaw {l l' : List UInt8} (hl : l.length ≤ 1000000) (hl' : l'.length ≤ 1000000) : Ret 148 #[(Value.agg #[Value.string ⟨List.toArray l⟩, Value.string ⟨List.toArray l'⟩])] (.tuple #[.string ⟨(rawN l l').toArray⟩, .string ⟨(rawD l').toArray⟩]) := by
  unfold rawN rawD
  by_cases h0 : val l' = 0
  · rw [if_pos h0, if_neg (by omega)]; exact sRaw0 hl hl' h0
  · rw [if_neg h0]
    by_cases h1 : val l' < 0
    · rw [if_pos h1, if_pos h1]; exact sRawN hl hl' h1
    · rw [if_neg h1, if_neg h1]; exact sRawP hl hl' (by omega)
end Go.Proofs.YtgnppdkeiihlfaaGreatDoor
/- trancheref02: reduced. -/
namespace Go.Proofs.YtgnppdkeiihlfaaGreatDoor
open Go.RowKit Num
section
variable {l l' : List UInt8}
set_option maxHeartbeats 1000000 in
set_option maxRecDepth 100000 in
theorem sRed0 (hl : l.length ≤ 1000000) (h0 : val l = 0) : Ret 150 #[.string ⟨l.toArray⟩, .string ⟨l'.toArray⟩] (.agg #[.string ⟨#[]⟩, .string ⟨#[]⟩]) := fun w hG => by
  have HZ := Lib.hid (sZero (l := l) hl (b := true) (decide_eq_true h0))
  have x4 := FBox.new w (.string ⟨#[]⟩) (.string ⟨#[]⟩) 25
  have hb1 := below_alloc w (.cells #[.string ⟨#[]⟩, .string ⟨#[]⟩] 25)
  go_enter Tryz.func150, Tryz.ntmps150
  go_wp2_with fail
  ((with_reducible refine (HZ.out.of hG hb1).mono ?_); rintro e w1 ⟨rfl, hb2⟩)
  have x4 := x4.below hb2
  have hb := bto hb1 hb2
  have q0 := x4.c0
  have q1 := x4.c1
  have q2 := x4.f0
  have q3 := x4.f1
  go_wp2
  have hy := x4.set (.string ⟨#[]⟩) (.string ⟨#[]⟩)
  have d0 := hy.c0
  have d1 := hy.c1
  refine bodyPost_ret (v := .agg #[.string ⟨#[]⟩, .string ⟨#[]⟩]) (by simp [results, Tryz.results150, go_sem, d0, d1]) rfl ?_
  exact ⟨rfl, below_set2 hb (Nat.le_refl _) _ _⟩
set_option maxHeartbeats 2000000 in
set_option maxRecDepth 100000 in
theorem sRed1 (hl : l.length ≤ 3900) (hl' : l'.length ≤ 3900) (h0 : val l ≠ 0) (h1 : 0 < val l') : Ret 150 #[.string ⟨l.toArray⟩, .string ⟨l'.toArray⟩] (Value.agg #[Value.string ⟨List.toArray (fN (Rat.divInt (val l) (val l')))⟩, Value.string ⟨List.toArray (fD (Rat.divInt (val l) (val l')))⟩]) := fun w hG => by
  have HZ := Lib.hid (sZero (l := l) (Nat.le_trans hl (by decide)) (b := false) (decide_eq_false h0))
  have hr := red_pos (val l) (val l') h1
  have hg0 := red_g (val l) (val l') (by omega)
  have hgl := len_canon_gcd (val l) (val l') (by omega) _ (val_lt l')
  have HGC := Lib.hid (qGcd (l := l) (l' := l') (by omega) (by omega) rfl)
  have vg := val_canon (Int.gcd (val l) (val l') : Int)
  have HE1 := Lib.hid (sExact (l := l) (l' := canon (Int.gcd (val l) (val l') : Int)) (by omega) (by omega) (by rw [vg]; omega) (q := (Rat.divInt (val l) (val l')).num) (by rw [vg]; exact hr.1))
  have HE2 := Lib.hid (sExact (l := l') (l' := canon (Int.gcd (val l) (val l') : Int)) (by omega) (by omega) (by rw [vg]; omega) (q := ((Rat.divInt (val l) (val l')).den : Int)) (by rw [vg]; exact hr.2))
  have hfd : fD (Rat.divInt (val l) (val l')) = if (Rat.divInt (val l) (val l')).den = 1 then [] else canon ((Rat.divInt (val l) (val l')).den : Int) := rfl
  have hfn : fN (Rat.divInt (val l) (val l')) = canon (Rat.divInt (val l) (val l')).num := rfl
  have hdl : (canon ((Rat.divInt (val l) (val l')).den : Int)).length ≤ 1000000 := by
    have h2 := hr.2
    unfold divZ at h2
    rw [if_pos (by omega)] at h2
    have h3 := Int.ediv_le_self (a := val l') (Int.gcd (val l) (val l') : Int) (by omega)
    have h4 := val_lt l'
    exact Nat.le_trans (canon_len_le _ l'.length (by omega)) (by omega)
  have hdp := (Rat.divInt (val l) (val l')).den_pos
  rw [hfd, hfn]
  generalize (Rat.divInt (val l) (val l')).den = d at *
  generalize canon (Rat.divInt (val l) (val l')).num = N at *
  generalize canon (Int.gcd (val l) (val l') : Int) = g at *
  obtain ⟨cz, hcz⟩ : ∃ cz : Int, cz = if d = 1 then 0 else 1 := ⟨_, rfl⟩
  have HC := Lib.hid (qCompare (l := canon (d : Int)) (l' := canon 1) hdl (by decide) (c := cz) (by rw [hcz, val_canon, val_canon]; unfold cmpZ; split <;> split <;> first | omega | (split <;> omega)))
  have HO := Lib.hid sOne
  generalize canon 1 = o at *
  generalize canon (d : Int) = D at *
  have x4 := FBox.new w (.string ⟨#[]⟩) (.string ⟨#[]⟩) 25
  have hb1 := below_alloc w (.cells #[.string ⟨#[]⟩, .string ⟨#[]⟩] 25)
  have HCZ := Lib.hid hcz
  clear hr hg0 hgl vg hfd hfn hdl hcz
  go_enter Tryz.func150, Tryz.ntmps150
  go_wp2_with fail
  ((with_reducible refine (HZ.out.of hG hb1).mono ?_); rintro e w1 ⟨rfl, hb2⟩)
  have hb := bto hb1 hb2
  have x4 := x4.below hb2
  go_wp2_with fail
  ((with_reducible refine (HGC.out.of hG hb).mono ?_); rintro e w2 ⟨rfl, hb2⟩)
  have hb := bto hb hb2
  have x4 := x4.below hb2
  go_wp2_with fail
  ((with_reducible refine (HE1.out.of hG hb).mono ?_); rintro e w3 ⟨rfl, hb2⟩)
  have hb := bto hb hb2
  have x4 := x4.below hb2
  go_wp2_with fail
  ((with_reducible refine (HE2.out.of hG hb).mono ?_); rintro e w4 ⟨rfl, hb2⟩)
  have hb := bto hb hb2
  have x4 := x4.below hb2
  have hl4 := x4.lt
  have x6 := FBox.new w4 (.string ⟨N.toArray⟩) (.string ⟨D.toArray⟩) 25
  have hal := below_alloc w4 (.cells #[.string ⟨N.toArray⟩, .string ⟨D.toArray⟩] 25)
  have x4 := x4.below hal
  have hb := bto hb hal
  clear hb2 hb1 hal
  go_wp2_with fail
  refine wp_region_kept (by kernel_rfl) (by kernel_rfl) ?_
  refine kept_val _ (fun _ => rfl) (fun ρ w hw => by go_simp; first | done | with_reducible rfl) ?_
  simp only [Act.put, List.setIfInBounds_toArray, List.set_cons_zero, List.set_cons_succ, Nat.reduceAdd]
  refine kept_val _ (fun _ => rfl) (fun ρ w hw => by have q0 := (x6.below hw).c0; have q1 := (x6.below hw).c1; go_simp; first | done | with_reducible rfl) ?_
  simp only [Act.put, List.setIfInBounds_toArray, List.set_cons_zero, List.set_cons_succ, Nat.reduceAdd]
  refine kept_call _ _ _ (fun _ => rfl) (fun ρ w hw => by go_simp; first | done | with_reducible rfl) (fun w hw => HO.out.of hG (bto hb hw)) ?_
  simp only [Act.put, List.setIfInBounds_toArray, List.set_cons_zero, List.set_cons_succ, Nat.reduceAdd]
  refine kept_call _ _ _ (fun _ => rfl) (fun ρ w hw => by go_simp; first | done | with_reducible rfl) (fun w hw => HC.out.of hG (bto hb hw)) ?_
  simp only [Act.put, List.setIfInBounds_toArray, List.set_cons_zero, List.set_cons_succ, Nat.reduceAdd]
  refine kept_val _ (fun _ => rfl) (fun ρ w hw => by go_simp; first | done | with_reducible rfl) ?_
  simp only [Act.put, List.setIfInBounds_toArray, List.set_cons_zero, List.set_cons_succ, Nat.reduceAdd]
  refine kept_end (fun ρ w5 hF => ?_)
  have hb5 := bto hb hF.below
  have x6 := x6.below hF.below
  have x4 := x4.below hF.below
  clear hF HZ HGC HE1 HE2 HC HO hb
  have hne : w.heap.size ≠ w4.heap.size := by omega
  have q0 := x6.c0
  have q1 := x6.c1
  have q2 := x6.f0
  have q3 := x6.f1
  have q4 := x4.c0
  have q5 := x4.c1
  have q6 := x4.f0
  have q7 := x4.f1
  by_cases hd : d = 1
  · have h00 : cz = 0 := by rw [HCZ.out, if_pos hd]
    subst h00
    have x6 := x6.set1 (.string ⟨#[]⟩)
    have x4 := x4.set1_ne hne (.string ⟨#[]⟩)
    have q0 := x6.c0
    have q1 := x6.c1
    have q4 := x4.c0
    have q5 := x4.c1
    have q6 := x4.f0
    have q7 := x4.f1
    clear HCZ
    go_wp2
    have hy := x4.set (.string ⟨N.toArray⟩) (.string ⟨#[]⟩)
    have d0 := hy.c0
    have d1 := hy.c1
    refine bodyPost_ret (v := .agg #[.string ⟨N.toArray⟩, .string ⟨#[]⟩]) (by simp [results, Tryz.results150, go_sem, d0, d1]) rfl ?_
    exact ⟨rfl, below_set2 (below_set1 hb5 (by omega) _ _) (Nat.le_refl _) _ _⟩
  · have h00 : cz = 1 := by rw [HCZ.out, if_neg hd]
    subst h00
    clear HCZ
    go_wp2
    have hy := x4.set (.string ⟨N.toArray⟩) (.string ⟨D.toArray⟩)
    have d0 := hy.c0
    have d1 := hy.c1
    refine bodyPost_ret (v := .agg #[.string ⟨N.toArray⟩, .string ⟨D.toArray⟩]) (by simp [results, Tryz.results150, go_sem, d0, d1]) rfl ?_
    exact ⟨rfl, below_set2 hb5 (Nat.le_refl _) _ _⟩
end
end Go.Proofs.YtgnppdkeiihlfaaGreatDoor
/- trancheref02: Canonical, Neg, Of. -/
namespace Go.Proofs.YtgnppdkeiihlfaaGreatDoor
open Go.RowKit Num
section
variable {l l' : List UInt8} {q : Rat}
theorem sRed (hl : l.length ≤ 3900) (hl' : l'.length ≤ 3900) (h1 : 0 < val l') (e : Rat.divInt (val l) (val l') = q) : Ret 150 #[.string ⟨l.toArray⟩, .string ⟨l'.toArray⟩] (Value.agg #[Value.string ⟨List.toArray (fN q)⟩, Value.string ⟨List.toArray (fD q)⟩]) := by
  subst e
  by_cases h0 : val l = 0
  · have : Rat.divInt (val l) (val l') = 0 := by rw [h0, Rat.zero_divInt]
    rw [this]
    exact sRed0 (Nat.le_trans hl (by decide)) h0
  · exact sRed1 hl hl' h0 h1
set_option maxHeartbeats 1000000 in
set_option maxRecDepth 100000 in
theorem sCanonical (hl : l.length ≤ 3800) (hl' : l'.length ≤ 3800) (e : fv l l' = q) : Ret 158 #[(Value.agg #[Value.string ⟨List.toArray l⟩, Value.string ⟨List.toArray l'⟩])] (Value.agg #[Value.string ⟨List.toArray (fN q)⟩, Value.string ⟨List.toArray (fD q)⟩]) := fun w hG => by
  have c1 := sRaw (l := l) (l' := l') (by omega) (by omega)
  have n1 := rawN_len l l'
  have n2 := rawD_len l'
  have c2 := sRed (l := rawN l l') (l' := rawD l') (by omega) (by omega) (rawD_pos l') ((raw_fv l l').trans e)
  generalize rawN l l' = A at *
  generalize rawD l' = B at *
  generalize fN q = N at *
  generalize fD q = D at *
  have H1 := Lib.hid c1
  have H2 := Lib.hid c2
  have x1 := (FBox.new w (.string ⟨l.toArray⟩) (.string ⟨l'.toArray⟩) 25).below (below_alloc _ (.cells #[.string ⟨#[]⟩, .string ⟨#[]⟩] 25))
  have x2 := FBox.new (w.alloc (.cells #[.string ⟨l.toArray⟩, .string ⟨l'.toArray⟩] 25)) (.string ⟨#[]⟩) (.string ⟨#[]⟩) 25
  rw [World.size_alloc] at x2
  have hb := bto (below_alloc w (.cells #[.string ⟨l.toArray⟩, .string ⟨l'.toArray⟩] 25)) (below_alloc _ (.cells #[.string ⟨#[]⟩, .string ⟨#[]⟩] 25))
  have q0 := x1.c0
  have q1 := x1.c1
  clear c1 c2 n1 n2 e
  go_enter Tryz.func158, Tryz.ntmps158
  go_wp2_with fail
  ((with_reducible refine (H1.out.of hG hb).mono ?_); rintro e w1 ⟨rfl, hb2⟩)
  have hb := bto hb hb2
  have x2 := x2.below hb2
  go_wp2_with fail
  ((with_reducible refine (H2.out.of hG hb).mono ?_); rintro e w2 ⟨rfl, hb3⟩)
  have hb := bto hb hb3
  have x2 := x2.below hb3
  have q2 := x2.c0
  have q3 := x2.c1
  have q4 := x2.f0
  have q5 := x2.f1
  go_wp2
  have hy := x2.set (.string ⟨N.toArray⟩) (.string ⟨D.toArray⟩)
  have d0 := hy.c0
  have d1 := hy.c1
  refine bodyPost_ret (v := .agg #[.string ⟨N.toArray⟩, .string ⟨D.toArray⟩]) (by simp [results, Tryz.results158, go_sem, d0, d1]) rfl ?_
  exact ⟨rfl, below_set2 hb (Nat.le_succ _) _ _⟩
end
end Go.Proofs.YtgnppdkeiihlfaaGreatDoor
/- trancheref02: Neg. -/
namespace Go.Proofs.YtgnppdkeiihlfaaGreatDoor
open Go.RowKit Num
section
variable {l l' : List UInt8} {q : Rat}
set_option maxHeartbeats 1000000 in
set_option maxRecDepth 100000 in
theorem sNeg (hl : l.length ≤ 3800) (hl' : l'.length ≤ 3800) (e : -fv l l' = q) : Ret 151 #[(Value.agg #[Value.string ⟨List.toArray l⟩, Value.string ⟨List.toArray l'⟩])] (Value.agg #[Value.string ⟨List.toArray (fN q)⟩, Value.string ⟨List.toArray (fD q)⟩]) := fun w hG => by
  have c0 := sRaw (l := l) (l' := l') (by omega) (by omega)
  have n1 := rawN_len l l'
  have n2 := rawD_len l'
  have n3 : (canon (-val (rawN l l'))).length ≤ 3900 := Nat.le_trans (canon_len_le _ _ (by rw [Int.natAbs_neg]; exact val_lt (rawN l l'))) (by omega)
  have c1 := qNeg (l := rawN l l') (by omega) rfl
  have c2 := sRed (l := canon (-val (rawN l l'))) (l' := rawD l') n3 (by omega) (rawD_pos l') (q := q) (by rw [val_canon, ← Rat.neg_divInt, raw_fv]; exact e)
  generalize canon (-val (rawN l l')) = M at *
  generalize rawN l l' = A at *
  generalize rawD l' = B at *
  generalize fN q = N at *
  generalize fD q = D at *
  have H0 := Lib.hid c0
  have H1 := Lib.hid c1
  have H2 := Lib.hid c2
  have x0 := ((FBox.new w (.string ⟨l.toArray⟩) (.string ⟨l'.toArray⟩) 25).below (below_alloc _ (.cells #[.string ⟨#[]⟩, .string ⟨#[]⟩] 25)))
  have x1 := (FBox.new (w.alloc (.cells #[.string ⟨l.toArray⟩, .string ⟨l'.toArray⟩] 25)) (.string ⟨#[]⟩) (.string ⟨#[]⟩) 25)
  simp only [World.size_alloc] at x1
  have hb := (bto (below_alloc w (.cells #[.string ⟨l.toArray⟩, .string ⟨l'.toArray⟩] 25)) (below_alloc _ (.cells #[.string ⟨#[]⟩, .string ⟨#[]⟩] 25)))
  have q0 := x0.c0
  have q1 := x0.c1
  have q2 := x1.c0
  have q3 := x1.c1
  clear c0 c1 c2 n1 n2 n3 e
  go_enter Tryz.func151, Tryz.ntmps151
  go_wp2_with fail
  ((with_reducible refine (H0.out.of hG hb).mono ?_); rintro e w1 ⟨rfl, hc⟩)
  have hb := bto hb hc
  have x0 := x0.below hc
  have x1 := x1.below hc
  have q0 := x0.c0
  have q1 := x0.c1
  have q2 := x1.c0
  have q3 := x1.c1
  clear hc
  go_wp2_with fail
  ((with_reducible refine (H1.out.of hG hb).mono ?_); rintro e w2 ⟨rfl, hc⟩)
  have hb := bto hb hc
  have x0 := x0.below hc
  have x1 := x1.below hc
  have q0 := x0.c0
  have q1 := x0.c1
  have q2 := x1.c0
  have q3 := x1.c1
  clear hc
  go_wp2_with fail
  ((with_reducible refine (H2.out.of hG hb).mono ?_); rintro e w3 ⟨rfl, hc⟩)
  have hb := bto hb hc
  have x0 := x0.below hc
  have x1 := x1.below hc
  have q0 := x0.c0
  have q1 := x0.c1
  have q2 := x1.c0
  have q3 := x1.c1
  clear hc
  have q90 := x1.f0
  have q91 := x1.f1
  go_wp2
  have hy := x1.set (.string ⟨N.toArray⟩) (.string ⟨D.toArray⟩)
  have d0 := hy.c0
  have d1 := hy.c1
  refine bodyPost_ret (v := .agg #[.string ⟨N.toArray⟩, .string ⟨D.toArray⟩]) (by simp [results, Tryz.results151, go_sem, d0, d1]) rfl ?_
  exact ⟨rfl, below_set2 hb (by omega) _ _⟩
end
end Go.Proofs.YtgnppdkeiihlfaaGreatDoor
/- trancheref02: Mul. -/
namespace Go.Proofs.YtgnppdkeiihlfaaGreatDoor
open Go.RowKit Num
section
variable {l l' k k' : List UInt8} {q : Rat}
set_option maxHeartbeats 1000000 in
set_option maxRecDepth 100000 in
theorem sMul (hl : l.length ≤ 900) (hl' : l'.length ≤ 900) (hk : k.length ≤ 900) (hk' : k'.length ≤ 900) (e : fv l l' * fv k k' = q) : Ret 87 #[(Value.agg #[Value.string ⟨List.toArray l⟩, Value.string ⟨List.toArray l'⟩]), (Value.agg #[Value.string ⟨List.toArray k⟩, Value.string ⟨List.toArray k'⟩])] (Value.agg #[Value.string ⟨List.toArray (fN q)⟩, Value.string ⟨List.toArray (fD q)⟩]) := fun w hG => by
  have c0 := sRaw (l := l) (l' := l') (by omega) (by omega)
  have c1 := sRaw (l := k) (l' := k') (by omega) (by omega)
  have n1 := rawN_len l l'
  have n2 := rawD_len l'
  have n3 := rawN_len k k'
  have n4 := rawD_len k'
  have p1 := rawD_pos l'
  have p2 := rawD_pos k'
  rw [← raw_fv l l', ← raw_fv k k'] at e
  generalize rawN l l' = A at *
  generalize rawD l' = B at *
  generalize rawN k k' = C at *
  generalize rawD k' = E at *
  have m1 : (canon (val A * val C)).length ≤ 3900 := Nat.le_trans (canon_len_le _ (A.length + C.length) (by rw [Int.natAbs_mul, Nat.pow_add]; exact Nat.mul_lt_mul'' (val_lt A) (val_lt C))) (by omega)
  have m2 : (canon (val B * val E)).length ≤ 3900 := Nat.le_trans (canon_len_le _ (B.length + E.length) (by rw [Int.natAbs_mul, Nat.pow_add]; exact Nat.mul_lt_mul'' (val_lt B) (val_lt E))) (by omega)
  have c2 := qMul (l := A) (l' := C) (by omega) (by omega) rfl
  have c3 := qMul (l := B) (l' := E) (by omega) (by omega) rfl
  have c4 := sRed (l := canon (val A * val C)) (l' := canon (val B * val E)) m1 m2 (by rw [val_canon]; exact Int.mul_pos p1 p2) (q := q) (by rw [val_canon, val_canon, ← Rat.divInt_mul_divInt]; exact e)
  generalize canon (val A * val C) = X at *
  generalize canon (val B * val E) = Y at *
  generalize fN q = N at *
  generalize fD q = D at *
  have H0 := Lib.hid c0
  have H1 := Lib.hid c1
  have H2 := Lib.hid c2
  have H3 := Lib.hid c3
  have H4 := Lib.hid c4
  have x0 := (((FBox.new w (.string ⟨l.toArray⟩) (.string ⟨l'.toArray⟩) 25).below (below_alloc _ (.cells #[.string ⟨k.toArray⟩, .string ⟨k'.toArray⟩] 25))).below (below_alloc _ (.cells #[.string ⟨#[]⟩, .string ⟨#[]⟩] 25)))
  have x1 := ((FBox.new (w.alloc (.cells #[.string ⟨l.toArray⟩, .string ⟨l'.toArray⟩] 25)) (.string ⟨k.toArray⟩) (.string ⟨k'.toArray⟩) 25).below (below_alloc _ (.cells #[.string ⟨#[]⟩, .string ⟨#[]⟩] 25)))
  simp only [World.size_alloc] at x1
  have x2 := (FBox.new ((w.alloc (.cells #[.string ⟨l.toArray⟩, .string ⟨l'.toArray⟩] 25)).alloc (.cells #[.string ⟨k.toArray⟩, .string ⟨k'.toArray⟩] 25)) (.string ⟨#[]⟩) (.string ⟨#[]⟩) 25)
  simp only [World.size_alloc] at x2
  have hb := (bto (bto (below_alloc w (.cells #[.string ⟨l.toArray⟩, .string ⟨l'.toArray⟩] 25)) (below_alloc _ (.cells #[.string ⟨k.toArray⟩, .string ⟨k'.toArray⟩] 25))) (below_alloc _ (.cells #[.string ⟨#[]⟩, .string ⟨#[]⟩] 25)))
  have q0 := x0.c0
  have q1 := x0.c1
  have q2 := x1.c0
  have q3 := x1.c1
  have q4 := x2.c0
  have q5 := x2.c1
  clear c0 c1 c2 c3 c4 n1 n2 n3 n4 p1 p2 m1 m2 e
  go_enter Tryz.func87, Tryz.ntmps87
  go_wp2_with fail
  ((with_reducible refine (H0.out.of hG hb).mono ?_); rintro e w1 ⟨rfl, hc⟩)
  have hb := bto hb hc
  have x0 := x0.below hc
  have x1 := x1.below hc
  have x2 := x2.below hc
  have q0 := x0.c0
  have q1 := x0.c1
  have q2 := x1.c0
  have q3 := x1.c1
  have q4 := x2.c0
  have q5 := x2.c1
  clear hc
  go_wp2_with fail
  ((with_reducible refine (H1.out.of hG hb).mono ?_); rintro e w2 ⟨rfl, hc⟩)
  have hb := bto hb hc
  have x0 := x0.below hc
  have x1 := x1.below hc
  have x2 := x2.below hc
  have q0 := x0.c0
  have q1 := x0.c1
  have q2 := x1.c0
  have q3 := x1.c1
  have q4 := x2.c0
  have q5 := x2.c1
  clear hc
  go_wp2_with fail
  ((with_reducible refine (H2.out.of hG hb).mono ?_); rintro e w3 ⟨rfl, hc⟩)
  have hb := bto hb hc
  have x0 := x0.below hc
  have x1 := x1.below hc
  have x2 := x2.below hc
  have q0 := x0.c0
  have q1 := x0.c1
  have q2 := x1.c0
  have q3 := x1.c1
  have q4 := x2.c0
  have q5 := x2.c1
  clear hc
  go_wp2_with fail
  ((with_reducible refine (H3.out.of hG hb).mono ?_); rintro e w4 ⟨rfl, hc⟩)
  have hb := bto hb hc
  have x0 := x0.below hc
  have x1 := x1.below hc
  have x2 := x2.below hc
  have q0 := x0.c0
  have q1 := x0.c1
  have q2 := x1.c0
  have q3 := x1.c1
  have q4 := x2.c0
  have q5 := x2.c1
  clear hc
  go_wp2_with fail
  ((with_reducible refine (H4.out.of hG hb).mono ?_); rintro e w5 ⟨rfl, hc⟩)
  have hb := bto hb hc
  have x0 := x0.below hc
  have x1 := x1.below hc
  have x2 := x2.below hc
  have q0 := x0.c0
  have q1 := x0.c1
  have q2 := x1.c0
  have q3 := x1.c1
  have q4 := x2.c0
  have q5 := x2.c1
  clear hc
  have q90 := x2.f0
  have q91 := x2.f1
  go_wp2
  have hy := x2.set (.string ⟨N.toArray⟩) (.string ⟨D.toArray⟩)
  have d0 := hy.c0
  have d1 := hy.c1
  refine bodyPost_ret (v := .agg #[.string ⟨N.toArray⟩, .string ⟨D.toArray⟩]) (by simp [results, Tryz.results87, go_sem, d0, d1]) rfl ?_
  exact ⟨rfl, below_set2 hb (by omega) _ _⟩
end
end Go.Proofs.YtgnppdkeiihlfaaGreatDoor
/- trancheref02: Add. -/
namespace Go.Proofs.YtgnppdkeiihlfaaGreatDoor
open Go.RowKit Num
section
variable {l l' k k' : List UInt8} {q : Rat}
set_option maxHeartbeats 1000000 in
set_option maxRecDepth 100000 in
theorem sAdd (hl : l.length ≤ 900) (hl' : l'.length ≤ 900) (hk : k.length ≤ 900) (hk' : k'.length ≤ 900) (e : fv l l' + fv k k' = q) : Ret 96 #[(Value.agg #[Value.string ⟨List.toArray l⟩, Value.string ⟨List.toArray l'⟩]), (Value.agg #[Value.string ⟨List.toArray k⟩, Value.string ⟨List.toArray k'⟩])] (Value.agg #[Value.string ⟨List.toArray (fN q)⟩, Value.string ⟨List.toArray (fD q)⟩]) := fun w hG => by
  have c0 := sRaw (l := l) (l' := l') (by omega) (by omega)
  have c1 := sRaw (l := k) (l' := k') (by omega) (by omega)
  have n1 := rawN_len l l'
  have n2 := rawD_len l'
  have n3 := rawN_len k k'
  have n4 := rawD_len k'
  have p1 := rawD_pos l'
  have p2 := rawD_pos k'
  rw [← raw_fv l l', ← raw_fv k k'] at e
  generalize rawN l l' = A at *
  generalize rawD l' = B at *
  generalize rawN k k' = C at *
  generalize rawD k' = E at *
  have t1 : (val A * val E).natAbs < 10 ^ (A.length + E.length) := by rw [Int.natAbs_mul, Nat.pow_add]; exact Nat.mul_lt_mul'' (val_lt A) (val_lt E)
  have t2 : (val C * val B).natAbs < 10 ^ (C.length + B.length) := by rw [Int.natAbs_mul, Nat.pow_add]; exact Nat.mul_lt_mul'' (val_lt C) (val_lt B)
  have m1 := canon_len_le _ _ t1
  have m2 := canon_len_le _ _ t2
  have m3 : (canon (val B * val E)).length ≤ 3900 := Nat.le_trans (canon_len_le _ (B.length + E.length) (by rw [Int.natAbs_mul, Nat.pow_add]; exact Nat.mul_lt_mul'' (val_lt B) (val_lt E))) (by omega)
  have m4 : (canon (val A * val E + val C * val B)).length ≤ 3900 := by
    refine Nat.le_trans (canon_len_le _ (A.length + E.length + (C.length + B.length) + 1) ?_) (by omega)
    have u1 : 10 ^ (A.length + E.length) ≤ 10 ^ (A.length + E.length + (C.length + B.length)) := Nat.pow_le_pow_right (by decide) (by omega)
    have u2 : 10 ^ (C.length + B.length) ≤ 10 ^ (A.length + E.length + (C.length + B.length)) := Nat.pow_le_pow_right (by decide) (by omega)
    rw [Nat.pow_succ]
    omega
  have c2 := qMul (l := A) (l' := E) (by omega) (by omega) rfl
  have c3 := qMul (l := C) (l' := B) (by omega) (by omega) rfl
  have c4 := qAdd (l := canon (val A * val E)) (l' := canon (val C * val B)) (by omega) (by omega) (z := val A * val E + val C * val B) (by rw [val_canon, val_canon])
  have c5 := qMul (l := B) (l' := E) (by omega) (by omega) rfl
  have c6 := sRed (l := canon (val A * val E + val C * val B)) (l' := canon (val B * val E)) m4 m3 (by rw [val_canon]; exact Int.mul_pos p1 p2) (q := q) (by rw [val_canon, val_canon, ← Rat.divInt_add_divInt _ _ (by omega) (by omega)]; exact e)
  generalize canon (val A * val E + val C * val B) = X at *
  generalize canon (val B * val E) = Y at *
  generalize canon (val A * val E) = U at *
  generalize canon (val C * val B) = V at *
  generalize fN q = N at *
  generalize fD q = D at *
  have H0 := Lib.hid c0
  have H1 := Lib.hid c1
  have H2 := Lib.hid c2
  have H3 := Lib.hid c3
  have H4 := Lib.hid c4
  have H5 := Lib.hid c5
  have H6 := Lib.hid c6
  have x0 := (((FBox.new w (.string ⟨l.toArray⟩) (.string ⟨l'.toArray⟩) 25).below (below_alloc _ (.cells #[.string ⟨k.toArray⟩, .string ⟨k'.toArray⟩] 25))).below (below_alloc _ (.cells #[.string ⟨#[]⟩, .string ⟨#[]⟩] 25)))
  have x1 := ((FBox.new (w.alloc (.cells #[.string ⟨l.toArray⟩, .string ⟨l'.toArray⟩] 25)) (.string ⟨k.toArray⟩) (.string ⟨k'.toArray⟩) 25).below (below_alloc _ (.cells #[.string ⟨#[]⟩, .string ⟨#[]⟩] 25)))
  simp only [World.size_alloc] at x1
  have x2 := (FBox.new ((w.alloc (.cells #[.string ⟨l.toArray⟩, .string ⟨l'.toArray⟩] 25)).alloc (.cells #[.string ⟨k.toArray⟩, .string ⟨k'.toArray⟩] 25)) (.string ⟨#[]⟩) (.string ⟨#[]⟩) 25)
  simp only [World.size_alloc] at x2
  have hb := (bto (bto (below_alloc w (.cells #[.string ⟨l.toArray⟩, .string ⟨l'.toArray⟩] 25)) (below_alloc _ (.cells #[.string ⟨k.toArray⟩, .string ⟨k'.toArray⟩] 25))) (below_alloc _ (.cells #[.string ⟨#[]⟩, .string ⟨#[]⟩] 25)))
  have q0 := x0.c0
  have q1 := x0.c1
  have q2 := x1.c0
  have q3 := x1.c1
  have q4 := x2.c0
  have q5 := x2.c1
  clear c0 c1 c2 c3 c4 c5 c6 n1 n2 n3 n4 p1 p2 m1 m2 m3 m4 t1 t2 e
  go_enter Tryz.func96, Tryz.ntmps96
  go_wp2_with fail
  ((with_reducible refine (H0.out.of hG hb).mono ?_); rintro e w1 ⟨rfl, hc⟩)
  have hb := bto hb hc
  have x0 := x0.below hc
  have x1 := x1.below hc
  have x2 := x2.below hc
  have q0 := x0.c0
  have q1 := x0.c1
  have q2 := x1.c0
  have q3 := x1.c1
  have q4 := x2.c0
  have q5 := x2.c1
  clear hc
  go_wp2_with fail
  ((with_reducible refine (H1.out.of hG hb).mono ?_); rintro e w2 ⟨rfl, hc⟩)
  have hb := bto hb hc
  have x0 := x0.below hc
  have x1 := x1.below hc
  have x2 := x2.below hc
  have q0 := x0.c0
  have q1 := x0.c1
  have q2 := x1.c0
  have q3 := x1.c1
  have q4 := x2.c0
  have q5 := x2.c1
  clear hc
  go_wp2_with fail
  ((with_reducible refine (H2.out.of hG hb).mono ?_); rintro e w3 ⟨rfl, hc⟩)
  have hb := bto hb hc
  have x0 := x0.below hc
  have x1 := x1.below hc
  have x2 := x2.below hc
  have q0 := x0.c0
  have q1 := x0.c1
  have q2 := x1.c0
  have q3 := x1.c1
  have q4 := x2.c0
  have q5 := x2.c1
  clear hc
  go_wp2_with fail
  ((with_reducible refine (H3.out.of hG hb).mono ?_); rintro e w4 ⟨rfl, hc⟩)
  have hb := bto hb hc
  have x0 := x0.below hc
  have x1 := x1.below hc
  have x2 := x2.below hc
  have q0 := x0.c0
  have q1 := x0.c1
  have q2 := x1.c0
  have q3 := x1.c1
  have q4 := x2.c0
  have q5 := x2.c1
  clear hc
  go_wp2_with fail
  ((with_reducible refine (H4.out.of hG hb).mono ?_); rintro e w5 ⟨rfl, hc⟩)
  have hb := bto hb hc
  have x0 := x0.below hc
  have x1 := x1.below hc
  have x2 := x2.below hc
  have q0 := x0.c0
  have q1 := x0.c1
  have q2 := x1.c0
  have q3 := x1.c1
  have q4 := x2.c0
  have q5 := x2.c1
  clear hc
  go_wp2_with fail
  ((with_reducible refine (H5.out.of hG hb).mono ?_); rintro e w6 ⟨rfl, hc⟩)
  have hb := bto hb hc
  have x0 := x0.below hc
  have x1 := x1.below hc
  have x2 := x2.below hc
  have q0 := x0.c0
  have q1 := x0.c1
  have q2 := x1.c0
  have q3 := x1.c1
  have q4 := x2.c0
  have q5 := x2.c1
  clear hc
  go_wp2_with fail
  ((with_reducible refine (H6.out.of hG hb).mono ?_); rintro e w7 ⟨rfl, hc⟩)
  have hb := bto hb hc
  have x0 := x0.below hc
  have x1 := x1.below hc
  have x2 := x2.below hc
  have q0 := x0.c0
  have q1 := x0.c1
  have q2 := x1.c0
  have q3 := x1.c1
  have q4 := x2.c0
  have q5 := x2.c1
  clear hc
  have q90 := x2.f0
  have q91 := x2.f1
  go_wp2
  have hy := x2.set (.string ⟨N.toArray⟩) (.string ⟨D.toArray⟩)
  have d0 := hy.c0
  have d1 := hy.c1
  refine bodyPost_ret (v := .agg #[.string ⟨N.toArray⟩, .string ⟨D.toArray⟩]) (by simp [results, Tryz.results96, go_sem, d0, d1]) rfl ?_
  exact ⟨rfl, below_set2 hb (by omega) _ _⟩
end
end Go.Proofs.YtgnppdkeiihlfaaGreatDoor
/- trancheref02: Compare's plain law. -/
namespace Go.Proofs.YtgnppdkeiihlfaaGreatDoor
open Go.RowKit Num
theorem cmp_cross {a b c e : Int} (hb : 0 < b) (he : 0 < e) : cmpZ (a * e) (c * b) = cmpQ (Rat.divInt a b) (Rat.divInt c e) := by
  have h1 : Rat.divInt a b - Rat.divInt c e = Rat.divInt (a * e - c * b) (b * e) := Rat.divInt_sub_divInt _ _ (by omega) (by omega)
  unfold cmpQ
  rw [h1]
  have hp : 0 < b * e := Int.mul_pos hb he
  generalize a * e = x at *
  generalize c * b = y at *
  generalize b * e = d at *
  have s1 : 0 ≤ (Rat.divInt (x - y) d).num ↔ 0 ≤ x - y := by rw [Rat.num_nonneg, Rat.divInt_nonneg_iff_of_pos_right hp]
  have s2 : (Rat.divInt (x - y) d).num = 0 ↔ x - y = 0 := by
    have s3 : 0 ≤ (Rat.divInt (-(x - y)) d).num ↔ 0 ≤ -(x - y) := by rw [Rat.num_nonneg, Rat.divInt_nonneg_iff_of_pos_right hp]
    rw [← Rat.neg_divInt, Rat.neg_num] at s3
    omega
  generalize (Rat.divInt (x - y) d).num = m at *
  unfold cmpZ
  split <;> split <;> first | omega | (split <;> first | omega | (split <;> omega))
end Go.Proofs.YtgnppdkeiihlfaaGreatDoor
/- trancheref02: Compare. -/
namespace Go.Proofs.YtgnppdkeiihlfaaGreatDoor
open Go.RowKit Num
section
variable {l l' k k' : List UInt8}
set_option maxHeartbeats 1000000 in
set_option maxRecDepth 100000 in
theorem sCompare (hl : l.length ≤ 900) (hl' : l'.length ≤ 900) (hk : k.length ≤ 900) (hk' : k'.length ≤ 900) {c : Int} (e : cmpQ (fv l l') (fv k k') = c) : Ret 147 #[(Value.agg #[Value.string ⟨List.toArray l⟩, Value.string ⟨List.toArray l'⟩]), (Value.agg #[Value.string ⟨List.toArray k⟩, Value.string ⟨List.toArray k'⟩])] (.int .i64 c) := fun w hG => by
  have c0 := sRaw (l := l) (l' := l') (by omega) (by omega)
  have c1 := sRaw (l := k) (l' := k') (by omega) (by omega)
  have n1 := rawN_len l l'
  have n2 := rawD_len l'
  have n3 := rawN_len k k'
  have n4 := rawD_len k'
  have p1 := rawD_pos l'
  have p2 := rawD_pos k'
  rw [← raw_fv l l', ← raw_fv k k'] at e
  generalize rawN l l' = A at *
  generalize rawD l' = B at *
  generalize rawN k k' = C at *
  generalize rawD k' = E at *
  have t1 : (val A * val E).natAbs < 10 ^ (A.length + E.length) := by rw [Int.natAbs_mul, Nat.pow_add]; exact Nat.mul_lt_mul'' (val_lt A) (val_lt E)
  have t2 : (val C * val B).natAbs < 10 ^ (C.length + B.length) := by rw [Int.natAbs_mul, Nat.pow_add]; exact Nat.mul_lt_mul'' (val_lt C) (val_lt B)
  have m1 := canon_len_le _ _ t1
  have m2 := canon_len_le _ _ t2
  have c2 := qMul (l := A) (l' := E) (by omega) (by omega) rfl
  have c3 := qMul (l := C) (l' := B) (by omega) (by omega) rfl
  have c4 := qCompare (l := canon (val A * val E)) (l' := canon (val C * val B)) (by omega) (by omega) (c := c) (by rw [val_canon, val_canon, cmp_cross p1 p2]; exact e)
  generalize canon (val A * val E) = U at *
  generalize canon (val C * val B) = V at *
  have H0 := Lib.hid c0
  have H1 := Lib.hid c1
  have H2 := Lib.hid c2
  have H3 := Lib.hid c3
  have H4 := Lib.hid c4
  have x0 := ((FBox.new w (.string ⟨l.toArray⟩) (.string ⟨l'.toArray⟩) 25).below (below_alloc _ (.cells #[.string ⟨k.toArray⟩, .string ⟨k'.toArray⟩] 25)))
  have x1 := (FBox.new (w.alloc (.cells #[.string ⟨l.toArray⟩, .string ⟨l'.toArray⟩] 25)) (.string ⟨k.toArray⟩) (.string ⟨k'.toArray⟩) 25)
  simp only [World.size_alloc] at x1
  have hb := (bto (below_alloc w (.cells #[.string ⟨l.toArray⟩, .string ⟨l'.toArray⟩] 25)) (below_alloc _ (.cells #[.string ⟨k.toArray⟩, .string ⟨k'.toArray⟩] 25)))
  have q0 := x0.c0
  have q1 := x0.c1
  have q2 := x1.c0
  have q3 := x1.c1
  clear c0 c1 c2 c3 c4 n1 n2 n3 n4 p1 p2 m1 m2 t1 t2 e
  go_enter Tryz.func147, Tryz.ntmps147
  go_wp2_with fail
  ((with_reducible refine (H0.out.of hG hb).mono ?_); rintro e w1 ⟨rfl, hc⟩)
  have hb := bto hb hc
  have x0 := x0.below hc
  have x1 := x1.below hc
  have q0 := x0.c0
  have q1 := x0.c1
  have q2 := x1.c0
  have q3 := x1.c1
  clear hc
  go_wp2_with fail
  ((with_reducible refine (H1.out.of hG hb).mono ?_); rintro e w2 ⟨rfl, hc⟩)
  have hb := bto hb hc
  have x0 := x0.below hc
  have x1 := x1.below hc
  have q0 := x0.c0
  have q1 := x0.c1
  have q2 := x1.c0
  have q3 := x1.c1
  clear hc
  go_wp2_with fail
  ((with_reducible refine (H2.out.of hG hb).mono ?_); rintro e w3 ⟨rfl, hc⟩)
  have hb := bto hb hc
  have x0 := x0.below hc
  have x1 := x1.below hc
  have q0 := x0.c0
  have q1 := x0.c1
  have q2 := x1.c0
  have q3 := x1.c1
  clear hc
  go_wp2_with fail
  ((with_reducible refine (H3.out.of hG hb).mono ?_); rintro e w4 ⟨rfl, hc⟩)
  have hb := bto hb hc
  have x0 := x0.below hc
  have x1 := x1.below hc
  have q0 := x0.c0
  have q1 := x0.c1
  have q2 := x1.c0
  have q3 := x1.c1
  clear hc
  go_wp2_with fail
  ((with_reducible refine (H4.out.of hG hb).mono ?_); rintro e w5 ⟨rfl, hc⟩)
  have hb := bto hb hc
  have x0 := x0.below hc
  have x1 := x1.below hc
  have q0 := x0.c0
  have q1 := x0.c1
  have q2 := x1.c0
  have q3 := x1.c1
  clear hc
  go_wp2
  go_ret
  exact ⟨rfl, hb⟩
end
end Go.Proofs.YtgnppdkeiihlfaaGreatDoor
/- trancheref02: Of. -/
namespace Go.Proofs.YtgnppdkeiihlfaaGreatDoor
open Go.RowKit Num
section
variable {l : List UInt8} {q : Rat}
set_option maxHeartbeats 1000000 in
set_option maxRecDepth 100000 in
theorem sOf (hl : l.length ≤ 3900) (e : Rat.divInt (val l) 1 = q) : Ret 89 #[.string ⟨l.toArray⟩] (Value.agg #[Value.string ⟨List.toArray (fN q)⟩, Value.string ⟨List.toArray (fD q)⟩]) := fun w hG => by
  have c1 := sRed (l := l) (l' := canon 1) hl (by decide) (by rw [val_canon]; decide) (q := q) (by rw [val_canon]; exact e)
  have c0 := sOne
  generalize canon 1 = o at *
  generalize fN q = N at *
  generalize fD q = D at *
  have H0 := Lib.hid c0
  have H1 := Lib.hid c1
  have x0 := (FBox.new w (.string ⟨#[]⟩) (.string ⟨#[]⟩) 25)
  have hb := (below_alloc w (.cells #[.string ⟨#[]⟩, .string ⟨#[]⟩] 25))
  have q0 := x0.c0
  have q1 := x0.c1
  clear c0 c1 e
  go_enter Tryz.func89, Tryz.ntmps89
  go_wp2_with fail
  ((with_reducible refine (H0.out.of hG hb).mono ?_); rintro e w1 ⟨rfl, hc⟩)
  have hb := bto hb hc
  have x0 := x0.below hc
  have q0 := x0.c0
  have q1 := x0.c1
  clear hc
  go_wp2_with fail
  ((with_reducible refine (H1.out.of hG hb).mono ?_); rintro e w2 ⟨rfl, hc⟩)
  have hb := bto hb hc
  have x0 := x0.below hc
  have q0 := x0.c0
  have q1 := x0.c1
  clear hc
  have q90 := x0.f0
  have q91 := x0.f1
  go_wp2
  have hy := x0.set (.string ⟨N.toArray⟩) (.string ⟨D.toArray⟩)
  have d0 := hy.c0
  have d1 := hy.c1
  refine bodyPost_ret (v := .agg #[.string ⟨N.toArray⟩, .string ⟨D.toArray⟩]) (by simp [results, Tryz.results89, go_sem, d0, d1]) rfl ?_
  exact ⟨rfl, below_set2 hb (by omega) _ _⟩
end
end Go.Proofs.YtgnppdkeiihlfaaGreatDoor
/- trancheref02: New. -/
namespace Go.Proofs.YtgnppdkeiihlfaaGreatDoor
open Go.RowKit Num
section
variable {l l' : List UInt8} {q : Rat}
set_option maxHeartbeats 1000000 in
set_option maxRecDepth 100000 in
theorem sNew0 (hl' : l'.length ≤ 1000000) (h0 : val l' = 0) : Ret 95 #[.string ⟨l.toArray⟩, .string ⟨l'.toArray⟩] (.tuple #[.agg #[.string ⟨#[]⟩, .string ⟨#[]⟩], .int .i64 10]) := fun w hG => by
  have HZ := Lib.hid (sZero (l := l') hl' (b := true) (decide_eq_true h0))
  have x4 := FBox.new w (.string ⟨#[]⟩) (.string ⟨#[]⟩) 25
  have hb1 := below_alloc w (.cells #[.string ⟨#[]⟩, .string ⟨#[]⟩] 25)
  go_enter Tryz.func95, Tryz.ntmps95
  go_wp2_with fail
  ((with_reducible refine (HZ.out.of hG hb1).mono ?_); rintro e w1 ⟨rfl, hb2⟩)
  have x4 := x4.below hb2
  have hb := bto hb1 hb2
  have q0 := x4.c0
  have q1 := x4.c1
  have q2 := x4.f0
  have q3 := x4.f1
  go_wp2
  have hy := x4.set (.string ⟨#[]⟩) (.string ⟨#[]⟩)
  have d0 := hy.c0
  have d1 := hy.c1
  refine bodyPost_ret (v := .tuple #[.agg #[.string ⟨#[]⟩, .string ⟨#[]⟩], .int .i64 10]) (by simp [results, Tryz.results95, go_sem, d0, d1]) rfl ?_
  exact ⟨rfl, below_set2 hb (Nat.le_refl _) _ _⟩
set_option maxHeartbeats 1000000 in
set_option maxRecDepth 100000 in
theorem sNew1 (hl : l.length ≤ 3800) (hl' : l'.length ≤ 3800) (h0 : val l' ≠ 0) (e : fv l l' = q) : Ret 95 #[.string ⟨l.toArray⟩, .string ⟨l'.toArray⟩] (.tuple #[(Value.agg #[Value.string ⟨List.toArray (fN q)⟩, Value.string ⟨List.toArray (fD q)⟩]), .int .i64 0]) := fun w hG => by
  have HZ := Lib.hid (sZero (l := l') (by omega) (b := false) (decide_eq_false h0))
  have HC := Lib.hid (sCanonical hl hl' e)
  generalize fN q = N at *
  generalize fD q = D at *
  have x4 := FBox.new w (.string ⟨#[]⟩) (.string ⟨#[]⟩) 25
  have hb1 := below_alloc w (.cells #[.string ⟨#[]⟩, .string ⟨#[]⟩] 25)
  clear e
  go_enter Tryz.func95, Tryz.ntmps95
  go_wp2_with fail
  ((with_reducible refine (HZ.out.of hG hb1).mono ?_); rintro e w1 ⟨rfl, hb2⟩)
  have x4 := x4.below hb2
  have hb := bto hb1 hb2
  go_wp2_with fail
  ((with_reducible refine (HC.out.of hG hb).mono ?_); rintro e w2 ⟨rfl, hb2⟩)
  have x4 := x4.below hb2
  have hb := bto hb hb2
  have q0 := x4.c0
  have q1 := x4.c1
  have q2 := x4.f0
  have q3 := x4.f1
  go_wp2
  have hy := x4.set (.string ⟨N.toArray⟩) (.string ⟨D.toArray⟩)
  have d0 := hy.c0
  have d1 := hy.c1
  refine bodyPost_ret (v := .tuple #[.agg #[.string ⟨N.toArray⟩, .string ⟨D.toArray⟩], .int .i64 0]) (by simp [results, Tryz.results95, go_sem, d0, d1]) rfl ?_
  exact ⟨rfl, below_set2 hb (Nat.le_refl _) _ _⟩
end
end Go.Proofs.YtgnppdkeiihlfaaGreatDoor
/- trancheref02: Sub. -/
namespace Go.Proofs.YtgnppdkeiihlfaaGreatDoor
open Go.RowKit Num
section
variable {l l' k k' : List UInt8} {q : Rat}
set_option maxHeartbeats 2000000 in
set_option maxRecDepth 100000 in
theorem sSub (hl : l.length ≤ 900) (hl' : l'.length ≤ 900) (hk : k.length ≤ 900) (hk' : k'.length ≤ 900) (hn : (fN (-fv k k')).length ≤ 900) (hd : (fD (-fv k k')).length ≤ 900) (e : fv l l' - fv k k' = q) : Ret 88 #[(Value.agg #[Value.string ⟨List.toArray l⟩, Value.string ⟨List.toArray l'⟩]), (Value.agg #[Value.string ⟨List.toArray k⟩, Value.string ⟨List.toArray k'⟩])] (Value.agg #[Value.string ⟨List.toArray (fN q)⟩, Value.string ⟨List.toArray (fD q)⟩]) := fun w hG => by
  have c1 := sNeg (l := k) (l' := k') (by omega) (by omega) rfl
  have c2 := sAdd (l := l) (l' := l') (k := fN (-fv k k')) (k' := fD (-fv k k')) (by omega) (by omega) hn hd (q := q) (by rw [fv_frac, ← e, Rat.sub_eq_add_neg])
  generalize fN (-fv k k') = M at *
  generalize fD (-fv k k') = E at *
  generalize fN q = N at *
  generalize fD q = D at *
  have H1 := Lib.hid c1
  have H2 := Lib.hid c2
  have X0 := ((FBox.new w (.string ⟨l.toArray⟩) (.string ⟨l'.toArray⟩) 25).below (below_alloc _ (.cells #[.string ⟨k.toArray⟩, .string ⟨k'.toArray⟩] 25))).below (below_alloc _ (.cells #[.string ⟨#[]⟩, .string ⟨#[]⟩] 25))
  have X1 := (FBox.new (w.alloc (.cells #[.string ⟨l.toArray⟩, .string ⟨l'.toArray⟩] 25)) (.string ⟨k.toArray⟩) (.string ⟨k'.toArray⟩) 25).below (below_alloc _ (.cells #[.string ⟨#[]⟩, .string ⟨#[]⟩] 25))
  have X2 := FBox.new ((w.alloc (.cells #[.string ⟨l.toArray⟩, .string ⟨l'.toArray⟩] 25)).alloc (.cells #[.string ⟨k.toArray⟩, .string ⟨k'.toArray⟩] 25)) (.string ⟨#[]⟩) (.string ⟨#[]⟩) 25
  have hbW := bto (below_alloc w (.cells #[.string ⟨l.toArray⟩, .string ⟨l'.toArray⟩] 25)) (bto (below_alloc _ (.cells #[.string ⟨k.toArray⟩, .string ⟨k'.toArray⟩] 25)) (below_alloc _ (.cells #[.string ⟨#[]⟩, .string ⟨#[]⟩] 25)))
  rw [World.size_alloc] at X1
  rw [World.size_alloc, World.size_alloc] at X2
  obtain ⟨W, hW⟩ : ∃ W, W = ((w.alloc (.cells #[.string ⟨l.toArray⟩, .string ⟨l'.toArray⟩] 25)).alloc (.cells #[.string ⟨k.toArray⟩, .string ⟨k'.toArray⟩] 25)).alloc (.cells #[.string ⟨#[]⟩, .string ⟨#[]⟩] 25) := ⟨_, rfl⟩
  obtain ⟨b0, hb0⟩ : ∃ b, b = w.heap.size := ⟨_, rfl⟩
  obtain ⟨b1, hb1⟩ : ∃ b, b = w.heap.size + 1 := ⟨_, rfl⟩
  obtain ⟨b2, hb2⟩ : ∃ b, b = w.heap.size + 1 + 1 := ⟨_, rfl⟩
  rw [← hW] at X0 X1 X2 hbW
  rw [← hb0] at X0
  rw [← hb1] at X1
  rw [← hb2] at X2
  have d02 : ¬ b0 = b2 := by omega
  have d12 : ¬ b1 = b2 := by omega
  have d20 : ¬ b2 = b0 := by omega
  have d21 : ¬ b2 = b1 := by omega
  have hwb : w.heap.size ≤ b2 := by omega
  have HW := Lib.hid (And.intro hW (And.intro hb0 (And.intro hb1 hb2)))
  clear hW hb0 hb1 hb2 c1 c2 e hn hd
  go_enter Tryz.func88, Tryz.ntmps88
  go_wp2_with fail
  rw [← HW.out.1, ← HW.out.2.2.2, ← HW.out.2.2.1, ← HW.out.2.1]
  have hbc := bdr W
  have x0 := X0.below hbc; have x1 := X1.below hbc; have x2 := X2.below hbc; have q0 := x0.c0; have q1 := x0.c1; have q2 := x1.c0; have q3 := x1.c1; have c0 := x2.c0; have c1 := x2.c1; have f0 := x2.f0; have f1 := x2.f1
  go_region_held3 (fun w' => w'.cell? ⟨b0, 0, none⟩ = some (.string ⟨l.toArray⟩) ∧ w'.cell? ⟨b0, 1, none⟩ = some (.string ⟨l'.toArray⟩) ∧ w'.cell? ⟨b1, 0, none⟩ = some (.string ⟨k.toArray⟩) ∧ w'.cell? ⟨b1, 1, none⟩ = some (.string ⟨k'.toArray⟩))
    (first | go_keep | (dsimp only; exact ⟨q0, q1, q2, q3⟩))
    (first
      | (go_at_call 151; (with_reducible refine Calls.mono (H1.out.of hG (bto hbW hbc)) ?_); rintro e w1 ⟨rfl, hb1⟩; have hbc := bto hbc hb1; have x0 := X0.below hbc; have x1 := X1.below hbc; have x2 := X2.below hbc; have q0 := x0.c0; have q1 := x0.c1; have q2 := x1.c0; have q3 := x1.c1; have c0 := x2.c0; have c1 := x2.c1; have f0 := x2.f0; have f1 := x2.f1)
      | (go_at_call 96; (with_reducible refine Calls.mono (H2.out.of hG (bto hbW hbc)) ?_); rintro e w2 ⟨rfl, hb2⟩; have hbc := bto hbc hb2; have x0 := X0.below hbc; have x1 := X1.below hbc; have x2 := X2.below hbc; have q0 := x0.c0; have q1 := x0.c1; have q2 := x1.c0; have q3 := x1.c1; have c0 := x2.c0; have c1 := x2.c1; have f0 := x2.f0; have f1 := x2.f1))
  go_wp2
  have hy := x2.set (.string ⟨N.toArray⟩) (.string ⟨D.toArray⟩)
  have z0 := hy.c0
  have z1 := hy.c1
  refine bodyPost_ret (v := .agg #[.string ⟨N.toArray⟩, .string ⟨D.toArray⟩]) (by simp [results, Tryz.results88, go_sem, z0, z1]) rfl ?_
  exact ⟨rfl, below_set2 (bto hbW hbc) hwb _ _⟩
end
end Go.Proofs.YtgnppdkeiihlfaaGreatDoor
/- trancheref02: Parts, Floor, Quo. -/
namespace Go.Proofs.YtgnppdkeiihlfaaGreatDoor
open Go.RowKit Num
theorem quo_raw {a b c e : Int} : Rat.divInt (a * e) (b * c) = Rat.divInt a b / Rat.divInt c e := by
  rw [Rat.div_def, Rat.inv_divInt, Rat.divInt_mul_divInt]
section
variable {l l' k k' : List UInt8} {q : Rat}
end
end Go.Proofs.YtgnppdkeiihlfaaGreatDoor
/- trancheref02: Quo, Check. -/
namespace Go.Proofs.YtgnppdkeiihlfaaGreatDoor
open Go.RowKit Num
section
variable {l l' k k' : List UInt8} {q : Rat}
set_option maxHeartbeats 1000000 in
set_option maxRecDepth 100000 in
theorem sQuo_any (hl : l.length ≤ 900) (hl' : l'.length ≤ 900) (hk : k.length ≤ 900) (hk' : k'.length ≤ 900) {ua va : ByteArray} {ec : Int}
    (hX : Ret 95 #[.string ⟨(canon (val (rawN l l') * val (rawD k'))).toArray⟩, .string ⟨(canon (val (rawD l') * val (rawN k k'))).toArray⟩] (.tuple #[.agg #[.string ua, .string va], .int .i64 ec])) :
    Ret 86 #[(Value.agg #[Value.string ⟨List.toArray l⟩, Value.string ⟨List.toArray l'⟩]), (Value.agg #[Value.string ⟨List.toArray k⟩, Value.string ⟨List.toArray k'⟩])] (.tuple #[.agg #[.string ua, .string va], .int .i64 ec]) := fun w hG => by
  have c0 := sRaw (l := l) (l' := l') (by omega) (by omega)
  have c1 := sRaw (l := k) (l' := k') (by omega) (by omega)
  have n1 := rawN_len l l'
  have n2 := rawD_len l'
  have n3 := rawN_len k k'
  have n4 := rawD_len k'
  generalize rawN l l' = A at *
  generalize rawD l' = B at *
  generalize rawN k k' = C at *
  generalize rawD k' = E at *
  have c2 := qMul (l := A) (l' := E) (by omega) (by omega) rfl
  have c3 := qMul (l := B) (l' := C) (by omega) (by omega) rfl
  generalize canon (val A * val E) = X at *
  generalize canon (val B * val C) = Y at *
  have H0 := Lib.hid c0
  have H1 := Lib.hid c1
  have H2 := Lib.hid c2
  have H3 := Lib.hid c3
  have H4 := Lib.hid hX
  have x0 := ((FBox.new w (.string ⟨l.toArray⟩) (.string ⟨l'.toArray⟩) 25).below (below_alloc _ (.cells #[.string ⟨k.toArray⟩, .string ⟨k'.toArray⟩] 25))).below (below_alloc _ (.cells #[.string ⟨#[]⟩, .string ⟨#[]⟩] 25))
  have x1 := (FBox.new (w.alloc (.cells #[.string ⟨l.toArray⟩, .string ⟨l'.toArray⟩] 25)) (.string ⟨k.toArray⟩) (.string ⟨k'.toArray⟩) 25).below (below_alloc _ (.cells #[.string ⟨#[]⟩, .string ⟨#[]⟩] 25))
  have x2 := FBox.new ((w.alloc (.cells #[.string ⟨l.toArray⟩, .string ⟨l'.toArray⟩] 25)).alloc (.cells #[.string ⟨k.toArray⟩, .string ⟨k'.toArray⟩] 25)) (.string ⟨#[]⟩) (.string ⟨#[]⟩) 25
  simp only [World.size_alloc] at x1 x2
  have hb := bto (bto (below_alloc w (.cells #[.string ⟨l.toArray⟩, .string ⟨l'.toArray⟩] 25)) (below_alloc _ (.cells #[.string ⟨k.toArray⟩, .string ⟨k'.toArray⟩] 25))) (below_alloc _ (.cells #[.string ⟨#[]⟩, .string ⟨#[]⟩] 25))
  have q0 := x0.c0
  have q1 := x0.c1
  have q2 := x1.c0
  have q3 := x1.c1
  clear c0 c1 c2 c3 hX n1 n2 n3 n4
  go_enter Tryz.func86, Tryz.ntmps86
  go_wp2_with fail
  ((with_reducible refine (H0.out.of hG hb).mono ?_); rintro e w1 ⟨rfl, hc⟩)
  have hb := bto hb hc
  have x0 := x0.below hc
  have x1 := x1.below hc
  have x2 := x2.below hc
  have q0 := x0.c0
  have q1 := x0.c1
  have q2 := x1.c0
  have q3 := x1.c1
  clear hc
  go_wp2_with fail
  ((with_reducible refine (H1.out.of hG hb).mono ?_); rintro e w2 ⟨rfl, hc⟩)
  have hb := bto hb hc
  have x0 := x0.below hc
  have x1 := x1.below hc
  have x2 := x2.below hc
  have q0 := x0.c0
  have q1 := x0.c1
  have q2 := x1.c0
  have q3 := x1.c1
  clear hc
  go_wp2_with fail
  ((with_reducible refine (H2.out.of hG hb).mono ?_); rintro e w3 ⟨rfl, hc⟩)
  have hb := bto hb hc
  have x0 := x0.below hc
  have x1 := x1.below hc
  have x2 := x2.below hc
  have q0 := x0.c0
  have q1 := x0.c1
  have q2 := x1.c0
  have q3 := x1.c1
  clear hc
  go_wp2_with fail
  ((with_reducible refine (H3.out.of hG hb).mono ?_); rintro e w4 ⟨rfl, hc⟩)
  have hb := bto hb hc
  have x0 := x0.below hc
  have x1 := x1.below hc
  have x2 := x2.below hc
  have q0 := x0.c0
  have q1 := x0.c1
  have q2 := x1.c0
  have q3 := x1.c1
  clear hc
  go_wp2_with fail
  ((with_reducible refine (H4.out.of hG hb).mono ?_); rintro e w5 ⟨rfl, hc⟩)
  have hb := bto hb hc
  have x0 := x0.below hc
  have x1 := x1.below hc
  have x2 := x2.below hc
  have q0 := x0.c0
  have q1 := x0.c1
  have q2 := x1.c0
  have q3 := x1.c1
  clear hc
  have q4 := x2.c0
  have q5 := x2.c1
  have q90 := x2.f0
  have q91 := x2.f1
  go_wp2
  have hy := x2.set (.string ua) (.string va)
  have d0 := hy.c0
  have d1 := hy.c1
  refine bodyPost_ret (v := .tuple #[.agg #[.string ua, .string va], .int .i64 ec]) (by simp [results, Tryz.results86, go_sem, d0, d1]) rfl ?_
  exact ⟨rfl, below_set2 hb (by omega) _ _⟩
theorem rawN_zero (k k' : List UInt8) : val (rawN k k') = 0 ↔ fv k k' = 0 := by
  have h := rawD_pos k'
  rw [← raw_fv k k']
  constructor
  · intro h0; rw [h0, Rat.zero_divInt]
  · intro h0
    have h1 := Rat.divInt_eq_divInt_iff (n₁ := val (rawN k k')) (n₂ := 0) (d₁ := val (rawD k')) (d₂ := val (rawD k')) (by omega) (by omega)
    rw [Rat.zero_divInt, h0, Int.zero_mul] at h1
    rcases Int.mul_eq_zero.1 (h1.1 rfl) with h3 | h3
    · exact h3
    · omega
theorem sQuo (hl : l.length ≤ 900) (hl' : l'.length ≤ 900) (hk : k.length ≤ 900) (hk' : k'.length ≤ 900) (h0 : fv k k' ≠ 0) (e : fv l l' / fv k k' = q) :
    Ret 86 #[(Value.agg #[Value.string ⟨List.toArray l⟩, Value.string ⟨List.toArray l'⟩]), (Value.agg #[Value.string ⟨List.toArray k⟩, Value.string ⟨List.toArray k'⟩])] (.tuple #[(Value.agg #[Value.string ⟨List.toArray (fN q)⟩, Value.string ⟨List.toArray (fD q)⟩]), .int .i64 0]) := by
  refine sQuo_any hl hl' hk hk' ?_
  have n1 := rawN_len l l'
  have n2 := rawD_len l'
  have n3 := rawN_len k k'
  have n4 := rawD_len k'
  have p1 := rawD_pos l'
  have hz : val (rawN k k') ≠ 0 := fun h => h0 ((rawN_zero k k').1 h)
  rw [← raw_fv l l', ← raw_fv k k'] at e
  generalize rawN l l' = A at *
  generalize rawD l' = B at *
  generalize rawN k k' = C at *
  generalize rawD k' = E at *
  have hne : val B * val C ≠ 0 := Int.mul_ne_zero (by omega) hz
  refine sNew1 ?_ ?_ (by rw [val_canon]; exact hne) ?_
  · exact Nat.le_trans (canon_len_le _ (A.length + E.length) (by rw [Int.natAbs_mul, Nat.pow_add]; exact Nat.mul_lt_mul'' (val_lt A) (val_lt E))) (by omega)
  · exact Nat.le_trans (canon_len_le _ (B.length + C.length) (by rw [Int.natAbs_mul, Nat.pow_add]; exact Nat.mul_lt_mul'' (val_lt B) (val_lt C))) (by omega)
  · unfold fv den1
    rw [val_canon, val_canon, if_neg hne, quo_raw]; exact e
theorem sQuo0 (hl : l.length ≤ 900) (hl' : l'.length ≤ 900) (hk : k.length ≤ 900) (hk' : k'.length ≤ 900) (h0 : fv k k' = 0) :
    Ret 86 #[(Value.agg #[Value.string ⟨List.toArray l⟩, Value.string ⟨List.toArray l'⟩]), (Value.agg #[Value.string ⟨List.toArray k⟩, Value.string ⟨List.toArray k'⟩])] (.tuple #[.agg #[.string ⟨#[]⟩, .string ⟨#[]⟩], .int .i64 10]) := by
  refine sQuo_any hl hl' hk hk' ?_
  have hz := (rawN_zero k k').2 h0
  rw [hz, Int.mul_zero]
  exact sNew0 (by decide) (by decide)
set_option maxHeartbeats 1000000 in
set_option maxRecDepth 100000 in
theorem sCheck (hl : l.length ≤ 3800) (hl' : l'.length ≤ 3800) (e : fv l l' = q) {c : Int} (ec : (if l = fN q ∧ l' = fD q then 0 else 1) = c) : Ret 146 #[(Value.agg #[Value.string ⟨List.toArray l⟩, Value.string ⟨List.toArray l'⟩])] (.int .i64 c) := fun w hG => by
  have cC := sCanonical hl hl' e
  have hb : Below w.heap.size w (w.alloc (.cells #[.string ⟨l.toArray⟩, .string ⟨l'.toArray⟩] 25)) := below_alloc w (.cells #[.string ⟨l.toArray⟩, .string ⟨l'.toArray⟩] 25)
  have x1 := FBox.new w (.string ⟨l.toArray⟩) (.string ⟨l'.toArray⟩) 25
  generalize fN q = N at *
  generalize fD q = D at *
  clear e
  by_cases h3 : l = N
  · have h1 : (l == N) = true := by rw [beq_iff_eq]; exact h3
    by_cases h4 : l' = D
    · have h2 : (l' == D) = true := by rw [beq_iff_eq]; exact h4
      rw [if_pos ⟨h3, h4⟩] at ec
      subst ec
      clear h3 h4
      go_enter Tryz.func146, Tryz.ntmps146
      go_wp2_with fail
      refine wp_region_kept (by kernel_rfl) (by kernel_rfl) ?_
      iterate 2
        refine kept_val _ (fun _ => rfl) (fun ρ w hw => by have q0 := (x1.below hw).c0; have q1 := (x1.below hw).c1; go_simp; first | done | with_reducible rfl) ?_
        simp only [Act.put, List.setIfInBounds_toArray, List.set_cons_zero, List.set_cons_succ, Nat.reduceAdd]
      refine kept_call _ _ _ (fun _ => rfl) (fun ρ w hw => by go_simp; first | done | with_reducible rfl) (fun w hw => cC.of hG (bto hb hw)) ?_
      simp only [Act.put, List.setIfInBounds_toArray, List.set_cons_zero, List.set_cons_succ, Nat.reduceAdd]
      refine kept_val _ (fun _ => rfl) (fun ρ w hw => by go_simp; first | done | with_reducible rfl) ?_
      simp only [Act.put, List.setIfInBounds_toArray, List.set_cons_zero, List.set_cons_succ, Nat.reduceAdd]
      refine kept_end (fun ρ w2 hF => ?_)
      replace x1 := x1.below hF.below
      replace hb := bto hb hF.below
      clear hF
      go_wp2
      go_ret
      exact ⟨rfl, hb⟩
    · have h2 : (l' == D) = false := by rw [beq_eq_false_iff_ne]; exact h4
      rw [if_neg (fun h => h4 h.2)] at ec
      subst ec
      clear h3 h4
      go_enter Tryz.func146, Tryz.ntmps146
      go_wp2_with fail
      refine wp_region_kept (by kernel_rfl) (by kernel_rfl) ?_
      iterate 2
        refine kept_val _ (fun _ => rfl) (fun ρ w hw => by have q0 := (x1.below hw).c0; have q1 := (x1.below hw).c1; go_simp; first | done | with_reducible rfl) ?_
        simp only [Act.put, List.setIfInBounds_toArray, List.set_cons_zero, List.set_cons_succ, Nat.reduceAdd]
      refine kept_call _ _ _ (fun _ => rfl) (fun ρ w hw => by go_simp; first | done | with_reducible rfl) (fun w hw => cC.of hG (bto hb hw)) ?_
      simp only [Act.put, List.setIfInBounds_toArray, List.set_cons_zero, List.set_cons_succ, Nat.reduceAdd]
      refine kept_val _ (fun _ => rfl) (fun ρ w hw => by go_simp; first | done | with_reducible rfl) ?_
      simp only [Act.put, List.setIfInBounds_toArray, List.set_cons_zero, List.set_cons_succ, Nat.reduceAdd]
      refine kept_end (fun ρ w2 hF => ?_)
      replace x1 := x1.below hF.below
      replace hb := bto hb hF.below
      clear hF
      go_wp2
      go_ret
      exact ⟨rfl, hb⟩
  · have h1 : (l == N) = false := by rw [beq_eq_false_iff_ne]; exact h3
    rw [if_neg (fun h => h3 h.1)] at ec
    subst ec
    clear h3
    go_enter Tryz.func146, Tryz.ntmps146
    go_wp2_with fail
    refine wp_region_kept (by kernel_rfl) (by kernel_rfl) ?_
    iterate 2
      refine kept_val _ (fun _ => rfl) (fun ρ w hw => by have q0 := (x1.below hw).c0; have q1 := (x1.below hw).c1; go_simp; first | done | with_reducible rfl) ?_
      simp only [Act.put, List.setIfInBounds_toArray, List.set_cons_zero, List.set_cons_succ, Nat.reduceAdd]
    refine kept_call _ _ _ (fun _ => rfl) (fun ρ w hw => by go_simp; first | done | with_reducible rfl) (fun w hw => cC.of hG (bto hb hw)) ?_
    simp only [Act.put, List.setIfInBounds_toArray, List.set_cons_zero, List.set_cons_succ, Nat.reduceAdd]
    refine kept_val _ (fun _ => rfl) (fun ρ w hw => by go_simp; first | done | with_reducible rfl) ?_
    simp only [Act.put, List.setIfInBounds_toArray, List.set_cons_zero, List.set_cons_succ, Nat.reduceAdd]
    refine kept_end (fun ρ w2 hF => ?_)
    replace x1 := x1.below hF.below
    replace hb := bto hb hF.below
    clear hF
    go_wp2
    go_ret
    exact ⟨rfl, hb⟩
end
end Go.Proofs.YtgnppdkeiihlfaaGreatDoor
/- trancheref02: Print, Power. -/
namespace Go.Proofs.YtgnppdkeiihlfaaGreatDoor
open Go.RowKit Num
section
variable {l l' : List UInt8} {q : Rat}
end
end Go.Proofs.YtgnppdkeiihlfaaGreatDoor
/- trancheref02: Power. -/
namespace Go.Proofs.YtgnppdkeiihlfaaGreatDoor
open Go.RowKit Num
section
variable {l l' k : List UInt8} {q : Rat}
end
end Go.Proofs.YtgnppdkeiihlfaaGreatDoor
