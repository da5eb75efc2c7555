/- Texts put together: Cc Be Cd Wa Ws Bs. -/
import Derived.Test.YtgnppdkeiihlfaaGreatDoorT7
import Derived.Test.YtgnppdkeiihlfaaGreatDoorProg
import Derived.Shelf.LaysM
import Derived.Shelf.Strings.Cut
import Derived.Shelf.Strings.Shaped
import Derived.Lib.IndexMore
import Derived.Shelf.Strings.Trim
import Derived.Shelf.Strconv.Itoa3
import Derived.Shelf.Strings.Search3
import Derived.Shelf.Strings.Prefix
import Derived.Lib.AppendIntMem
/- trancheref02: one, zero, exact, Raw. -/
namespace Go.Proofs.YtgnppdkeiihlfaaGreatDoor
open Go.RowKit Num

set_option maxRecDepth 100000 in
theorem sOne : Ret 152 #[] (.string ⟨(canon 1).toArray⟩) := fun w _ => by
  have H := Lib.hid (rof_any 1)
  generalize canon 1 = o at *
  go_enter Tryz.func152, Tryz.ntmps152
  go_wp2_with fail
  ((with_reducible refine (H.out _ (by omega) (by omega)).mono ?_); rintro e w' ⟨rfl, rfl⟩)
  go_wp2
  go_ret
  exact ⟨rfl, Below.refl _ _⟩
section
variable {l l' : List UInt8}
set_option maxRecDepth 100000 in
theorem sZero (hl : l.length ≤ 1000000) {b : Bool} (e : decide (val l = 0) = b) : Ret 157 #[.string ⟨l.toArray⟩] (.bool b) := fun w hG => by
  have c := qCompare (l := l) (l' := []) hl (by decide) rfl
  have hc : (cmpZ (val l) (val []) == 0) = b := by
    rw [← e, val_nil]; unfold cmpZ
    by_cases h : val l = 0
    · rw [h]; rfl
    · rw [decide_eq_false h, beq_eq_false_iff_ne]; split
      · decide
      · split
        · decide
        · omega
  have HC := Lib.hid c
  generalize cmpZ (val l) (val []) = z at *
  clear c e
  go_enter Tryz.func157, Tryz.ntmps157
  go_wp2_with fail
  ((with_reducible refine (HC.out.of hG (Below.refl _ _)).mono ?_); rintro e w1 ⟨rfl, hb1⟩)
  go_wp2
  go_ret
  exact ⟨rfl, hb1⟩
set_option maxRecDepth 100000 in
theorem sExact (hl : l.length ≤ 4000) (hl' : l'.length ≤ 4000) (h0 : val l' ≠ 0) {q : Int} (e : divZ (val l) (val l') = q) : Ret 212 #[.string ⟨l.toArray⟩, .string ⟨l'.toArray⟩] (.string ⟨(canon q).toArray⟩) := fun w hG => by
  have c := qDiv hl hl' h0 e rfl
  have HC := Lib.hid c
  generalize canon (modZ (val l) (val l')) = r at *
  generalize canon q = t at *
  clear c e
  go_enter Tryz.func212, Tryz.ntmps212
  go_wp2_with fail
  ((with_reducible refine (HC.out.of hG (Below.refl _ _)).mono ?_); rintro e w1 ⟨rfl, hb1⟩)
  go_wp2
  go_ret
  exact ⟨rfl, hb1⟩
end
end Go.Proofs.YtgnppdkeiihlfaaGreatDoor
/- trancheref02: Raw. -/
namespace Go.Proofs.YtgnppdkeiihlfaaGreatDoor
open Go.RowKit Num
section
variable {l l' : List UInt8}
set_option maxHeartbeats 1000000 in
set_option maxRecDepth 100000 in
theorem sRaw0 (_hl : l.length ≤ 1000000) (hl' : l'.length ≤ 1000000) (h0 : val l' = 0) : Ret 148 #[(Value.agg #[Value.string ⟨List.toArray l⟩, Value.string ⟨List.toArray l'⟩])] (.tuple #[.string ⟨l.toArray⟩, .string ⟨(canon 1).toArray⟩]) := fun w hG => by
  have cz := sZero (l := l') hl' (b := true) (by exact decide_eq_true h0)
  have HZ := Lib.hid cz
  have hx1 := FBox.new w (.string ⟨l.toArray⟩) (.string ⟨l'.toArray⟩) 25
  have hb1 := below_alloc w (.cells #[.string ⟨l.toArray⟩, .string ⟨l'.toArray⟩] 25)
  have q0 := hx1.c0
  have q1 := hx1.c1
  clear cz
  go_enter Tryz.func148, Tryz.ntmps148
  go_wp2_with fail
  ((with_reducible refine (HZ.out.of hG hb1).mono ?_); rintro e w1 ⟨rfl, hb2⟩)
  have x1 := hx1.below hb2
  have hb := bto hb1 hb2
  have q0 := x1.c0
  have q1 := x1.c1
  clear hx1 hb1 hb2
  go_wp2_with fail
  refine wp_region_kept (by kernel_rfl) (by kernel_rfl) ?_
  refine kept_val _ (fun _ => rfl) (fun ρ w hw => by go_simp; first | done | with_reducible rfl) ?_
  simp only [Act.put, List.setIfInBounds_toArray, List.set_cons_zero, List.set_cons_succ, Nat.reduceAdd]
  refine kept_val _ (fun _ => rfl) (fun ρ w hw => by have q0 := (x1.below hw).c0; have q1 := (x1.below hw).c1; go_simp; first | done | with_reducible rfl) ?_
  simp only [Act.put, List.setIfInBounds_toArray, List.set_cons_zero, List.set_cons_succ, Nat.reduceAdd]
  refine kept_call _ _ _ (fun _ => rfl) (fun ρ w hw => by go_simp; first | done | with_reducible rfl) (fun w hw => sOne.of hG (bto hb hw)) ?_
  simp only [Act.put, List.setIfInBounds_toArray, List.set_cons_zero, List.set_cons_succ, Nat.reduceAdd]
  refine kept_val _ (fun _ => rfl) (fun ρ w hw => by go_simp; first | done | with_reducible rfl) ?_
  simp only [Act.put, List.setIfInBounds_toArray, List.set_cons_zero, List.set_cons_succ, Nat.reduceAdd]
  refine kept_val _ (fun _ => rfl) (fun ρ w hw => by go_simp; first | done | with_reducible rfl) ?_
  simp only [Act.put, List.setIfInBounds_toArray, List.set_cons_zero, List.set_cons_succ, Nat.reduceAdd]
  refine kept_end (fun ρ w3 hF => ?_)
  have hb3 := bto hb hF.below
  clear hF
  go_wp2
  go_ret2
  exact ⟨rfl, hb3⟩
set_option maxHeartbeats 1000000 in
set_option maxRecDepth 100000 in
theorem sRawN (hl : l.length ≤ 1000000) (hl' : l'.length ≤ 1000000) (h0 : val l' < 0) : Ret 148 #[(Value.agg #[Value.string ⟨List.toArray l⟩, Value.string ⟨List.toArray l'⟩])] (.tuple #[.string ⟨(canon (-val l)).toArray⟩, .string ⟨(canon (-val l')).toArray⟩]) := fun w hG => by
  have cz := sZero (l := l') hl' (b := false) (by exact decide_eq_false (by omega))
  have HZ := Lib.hid cz
  have hx1 := FBox.new w (.string ⟨l.toArray⟩) (.string ⟨l'.toArray⟩) 25
  have hb1 := below_alloc w (.cells #[.string ⟨l.toArray⟩, .string ⟨l'.toArray⟩] 25)
  have q0 := hx1.c0
  have q1 := hx1.c1
  clear cz
  have cc := qCompare (l := l') (l' := []) hl' (by decide) (c := -1) (by rw [val_nil]; unfold cmpZ; rw [if_pos h0])
  have HC := Lib.hid cc
  clear cc
  go_enter Tryz.func148, Tryz.ntmps148
  go_wp2_with fail
  ((with_reducible refine (HZ.out.of hG hb1).mono ?_); rintro e w1 ⟨rfl, hb2⟩)
  have x1 := hx1.below hb2
  have hb := bto hb1 hb2
  have q0 := x1.c0
  have q1 := x1.c1
  clear hx1 hb1 hb2
  go_wp2_with fail
  ((with_reducible refine (HC.out.of hG hb).mono ?_); rintro e w2 ⟨rfl, hb2⟩)
  have x1 := x1.below hb2
  have hb := bto hb hb2
  have q0 := x1.c0
  have q1 := x1.c1
  clear hb2
  go_wp2_with fail
  refine wp_region_kept (by kernel_rfl) (by kernel_rfl) ?_
  refine kept_val _ (fun _ => rfl) (fun ρ w hw => by go_simp; first | done | with_reducible rfl) ?_
  simp only [Act.put, List.setIfInBounds_toArray, List.set_cons_zero, List.set_cons_succ, Nat.reduceAdd]
  refine kept_val _ (fun _ => rfl) (fun ρ w hw => by have q0 := (x1.below hw).c0; have q1 := (x1.below hw).c1; go_simp; first | done | with_reducible rfl) ?_
  simp only [Act.put, List.setIfInBounds_toArray, List.set_cons_zero, List.set_cons_succ, Nat.reduceAdd]
  refine kept_call _ _ _ (fun _ => rfl) (fun ρ w hw => by go_simp; first | done | with_reducible rfl) (fun w hw => (qNeg (l := l) hl rfl).of hG (bto hb hw)) ?_
  simp only [Act.put, List.setIfInBounds_toArray, List.set_cons_zero, List.set_cons_succ, Nat.reduceAdd]
  refine kept_val _ (fun _ => rfl) (fun ρ w hw => by go_simp; first | done | with_reducible rfl) ?_
  simp only [Act.put, List.setIfInBounds_toArray, List.set_cons_zero, List.set_cons_succ, Nat.reduceAdd]
  refine kept_val _ (fun _ => rfl) (fun ρ w hw => by have q0 := (x1.below hw).c0; have q1 := (x1.below hw).c1; go_simp; first | done | with_reducible rfl) ?_
  simp only [Act.put, List.setIfInBounds_toArray, List.set_cons_zero, List.set_cons_succ, Nat.reduceAdd]
  refine kept_call _ _ _ (fun _ => rfl) (fun ρ w hw => by go_simp; first | done | with_reducible rfl) (fun w hw => (qNeg (l := l') hl' rfl).of hG (bto hb hw)) ?_
  simp only [Act.put, List.setIfInBounds_toArray, List.set_cons_zero, List.set_cons_succ, Nat.reduceAdd]
  refine kept_val _ (fun _ => rfl) (fun ρ w hw => by go_simp; first | done | with_reducible rfl) ?_
  simp only [Act.put, List.setIfInBounds_toArray, List.set_cons_zero, List.set_cons_succ, Nat.reduceAdd]
  refine kept_val _ (fun _ => rfl) (fun ρ w hw => by go_simp; first | done | with_reducible rfl) ?_
  simp only [Act.put, List.setIfInBounds_toArray, List.set_cons_zero, List.set_cons_succ, Nat.reduceAdd]
  refine kept_end (fun ρ w3 hF => ?_)
  have hb3 := bto hb hF.below
  clear hF
  go_wp2
  go_ret2
  exact ⟨rfl, hb3⟩
set_option maxHeartbeats 1000000 in
set_option maxRecDepth 100000 in
theorem sRawP (_hl : l.length ≤ 1000000) (hl' : l'.length ≤ 1000000) (h0 : 0 < val l') : Ret 148 #[(Value.agg #[Value.string ⟨List.toArray l⟩, Value.string ⟨List.toArray l'⟩])] (.tuple #[.string ⟨l.toArray⟩, .string ⟨l'.toArray⟩]) := fun w hG => by
  have cz := sZero (l := l') hl' (b := false) (by exact decide_eq_false (by omega))
  have HZ := Lib.hid cz
  have hx1 := FBox.new w (.string ⟨l.toArray⟩) (.string ⟨l'.toArray⟩) 25
  have hb1 := below_alloc w (.cells #[.string ⟨l.toArray⟩, .string ⟨l'.toArray⟩] 25)
  have q0 := hx1.c0
  have q1 := hx1.c1
  clear cz
  have cc := qCompare (l := l') (l' := []) hl' (by decide) (c := 1) (by rw [val_nil]; unfold cmpZ; rw [if_neg (by omega), if_pos h0])
  have HC := Lib.hid cc
  clear cc
  go_enter Tryz.func148, Tryz.ntmps148
  go_wp2_with fail
  ((with_reducible refine (HZ.out.of hG hb1).mono ?_); rintro e w1 ⟨rfl, hb2⟩)
  have x1 := hx1.below hb2
  have hb := bto hb1 hb2
  have q0 := x1.c0
  have q1 := x1.c1
  clear hx1 hb1 hb2
  go_wp2_with fail
  ((with_reducible refine (HC.out.of hG hb).mono ?_); rintro e w2 ⟨rfl, hb2⟩)
  have x1 := x1.below hb2
  have hb := bto hb hb2
  have q0 := x1.c0
  have q1 := x1.c1
  clear hb2
  go_wp2_with fail
  refine wp_region_kept (by kernel_rfl) (by kernel_rfl) ?_
  refine kept_val _ (fun _ => rfl) (fun ρ w hw => by go_simp; first | done | with_reducible rfl) ?_
  simp only [Act.put, List.setIfInBounds_toArray, List.set_cons_zero, List.set_cons_succ, Nat.reduceAdd]
  refine kept_val _ (fun _ => rfl) (fun ρ w hw => by have q0 := (x1.below hw).c0; have q1 := (x1.below hw).c1; go_simp; first | done | with_reducible rfl) ?_
  simp only [Act.put, List.setIfInBounds_toArray, List.set_cons_zero, List.set_cons_succ, Nat.reduceAdd]
  refine kept_val _ (fun _ => rfl) (fun ρ w hw => by go_simp; first | done | with_reducible rfl) ?_
  simp only [Act.put, List.setIfInBounds_toArray, List.set_cons_zero, List.set_cons_succ, Nat.reduceAdd]
  refine kept_val _ (fun _ => rfl) (fun ρ w hw => by have q0 := (x1.below hw).c0; have q1 := (x1.below hw).c1; go_simp; first | done | with_reducible rfl) ?_
  simp only [Act.put, List.setIfInBounds_toArray, List.set_cons_zero, List.set_cons_succ, Nat.reduceAdd]
  refine kept_val _ (fun _ => rfl) (fun ρ w hw => by go_simp; first | done | with_reducible rfl) ?_
  simp only [Act.put, List.setIfInBounds_toArray, List.set_cons_zero, List.set_cons_succ, Nat.reduceAdd]
  refine kept_val _ (fun _ => rfl) (fun ρ w hw => by go_simp; first | done | with_reducible rfl) ?_
  simp only [Act.put, List.setIfInBounds_toArray, List.set_cons_zero, List.set_cons_succ, Nat.reduceAdd]
  refine kept_end (fun ρ w3 hF => ?_)
  have hb3 := bto hb hF.below
  clear hF
  go_wp2
  go_ret2
  exact ⟨rfl, hb3⟩
end
/-- what Raw answers -/
def rawN (l l' : List UInt8) : List UInt8 := if val l' < 0 then canon (-val l) else l
def rawD (l' : List UInt8) : List UInt8 := if val l' = 0 then canon 1 else if val l' < 0 then canon (-val l') else l'
theorem rawD_pos (l' : List UInt8) : 0 < val (rawD l') := by
  unfold rawD; split
  · rw [val_canon]; decide
  · split
    · rw [val_canon]; omega
    · omega
theorem raw_fv (l l' : List UInt8) : Rat.divInt (val (rawN l l')) (val (rawD l')) = fv l l' := by
  unfold rawN rawD fv den1
  by_cases h0 : val l' = 0
  · rw [if_pos h0, if_neg (by omega), val_canon]; simp [h0]
  · rw [if_neg h0]
    by_cases h1 : val l' < 0
    · rw [if_pos h1, if_pos h1, val_canon, val_canon, Rat.neg_divInt_neg]; simp [h0]
    · rw [if_neg h1, if_neg h1]; simp [h0]
theorem rawN_len (l l' : List UInt8) : (rawN l l').length ≤ l.length + 1 := by
  unfold rawN; split
  · exact canon_len_le _ _ (by rw [Int.natAbs_neg]; exact val_lt l)
  · omega
theorem rawD_len (l' : List UInt8) : (rawD l').length ≤ l'.length + 1 := by
  unfold rawD; split
  · exact Nat.le_trans (show (canon 1).length ≤ 1 by decide) (by omega)
  · split
    · exact canon_len_le _ _ (by rw [Int.natAbs_neg]; exact val_lt l')
    · omega
theorem sRaw {l l' : List UInt8} (hl : l.length ≤ 1000000) (hl' : l'.length ≤ 1000000) : Ret 148 #[(Value.agg #[Value.string ⟨List.toArray l⟩, Value.string ⟨List.toArray l'⟩])] (.tuple #[.string ⟨(rawN l l').toArray⟩, .string ⟨(rawD l').toArray⟩]) := by
  unfold rawN rawD
  by_cases h0 : val l' = 0
  · rw [if_pos h0, if_neg (by omega)]; exact sRaw0 hl hl' h0
  · rw [if_neg h0]
    by_cases h1 : val l' < 0
    · rw [if_pos h1, if_pos h1]; exact sRawN hl hl' h1
    · rw [if_neg h1, if_neg h1]; exact sRawP hl hl' (by omega)
end Go.Proofs.YtgnppdkeiihlfaaGreatDoor
/- trancheref02: reduced. -/
namespace Go.Proofs.YtgnppdkeiihlfaaGreatDoor
open Go.RowKit Num
section
variable {l l' : List UInt8}
set_option maxHeartbeats 1000000 in
set_option maxRecDepth 100000 in
theorem sRed0 (hl : l.length ≤ 1000000) (h0 : val l = 0) : Ret 150 #[.string ⟨l.toArray⟩, .string ⟨l'.toArray⟩] (.agg #[.string ⟨#[]⟩, .string ⟨#[]⟩]) := fun w hG => by
  have HZ := Lib.hid (sZero (l := l) hl (b := true) (decide_eq_true h0))
  have x4 := FBox.new w (.string ⟨#[]⟩) (.string ⟨#[]⟩) 25
  have hb1 := below_alloc w (.cells #[.string ⟨#[]⟩, .string ⟨#[]⟩] 25)
  go_enter Tryz.func150, Tryz.ntmps150
  go_wp2_with fail
  ((with_reducible refine (HZ.out.of hG hb1).mono ?_); rintro e w1 ⟨rfl, hb2⟩)
  have x4 := x4.below hb2
  have hb := bto hb1 hb2
  have q0 := x4.c0
  have q1 := x4.c1
  have q2 := x4.f0
  have q3 := x4.f1
  go_wp2
  have hy := x4.set (.string ⟨#[]⟩) (.string ⟨#[]⟩)
  have d0 := hy.c0
  have d1 := hy.c1
  refine bodyPost_ret (v := .agg #[.string ⟨#[]⟩, .string ⟨#[]⟩]) (by simp [results, Tryz.results150, go_sem, d0, d1]) rfl ?_
  exact ⟨rfl, below_set2 hb (Nat.le_refl _) _ _⟩
set_option maxHeartbeats 2000000 in
set_option maxRecDepth 100000 in
theorem sRed1 (hl : l.length ≤ 3900) (hl' : l'.length ≤ 3900) (h0 : val l ≠ 0) (h1 : 0 < val l') : Ret 150 #[.string ⟨l.toArray⟩, .string ⟨l'.toArray⟩] (Value.agg #[Value.string ⟨List.toArray (fN (Rat.divInt (val l) (val l')))⟩, Value.string ⟨List.toArray (fD (Rat.divInt (val l) (val l')))⟩]) := fun w hG => by
  have HZ := Lib.hid (sZero (l := l) (Nat.le_trans hl (by decide)) (b := false) (decide_eq_false h0))
  have hr := red_pos (val l) (val l') h1
  have hg0 := red_g (val l) (val l') (by omega)
  have hgl := len_canon_gcd (val l) (val l') (by omega) _ (val_lt l')
  have HGC := Lib.hid (qGcd (l := l) (l' := l') (by omega) (by omega) rfl)
  have vg := val_canon (Int.gcd (val l) (val l') : Int)
  have HE1 := Lib.hid (sExact (l := l) (l' := canon (Int.gcd (val l) (val l') : Int)) (by omega) (by omega) (by rw [vg]; omega) (q := (Rat.divInt (val l) (val l')).num) (by rw [vg]; exact hr.1))
  have HE2 := Lib.hid (sExact (l := l') (l' := canon (Int.gcd (val l) (val l') : Int)) (by omega) (by omega) (by rw [vg]; omega) (q := ((Rat.divInt (val l) (val l')).den : Int)) (by rw [vg]; exact hr.2))
  have hfd : fD (Rat.divInt (val l) (val l')) = if (Rat.divInt (val l) (val l')).den = 1 then [] else canon ((Rat.divInt (val l) (val l')).den : Int) := rfl
  have hfn : fN (Rat.divInt (val l) (val l')) = canon (Rat.divInt (val l) (val l')).num := rfl
  have hdl : (canon ((Rat.divInt (val l) (val l')).den : Int)).length ≤ 1000000 := by
    have h2 := hr.2
    unfold divZ at h2
    rw [if_pos (by omega)] at h2
    have h3 := Int.ediv_le_self (a := val l') (Int.gcd (val l) (val l') : Int) (by omega)
    have h4 := val_lt l'
    exact Nat.le_trans (canon_len_le _ l'.length (by omega)) (by omega)
  have hdp := (Rat.divInt (val l) (val l')).den_pos
  rw [hfd, hfn]
  generalize (Rat.divInt (val l) (val l')).den = d at *
  generalize canon (Rat.divInt (val l) (val l')).num = N at *
  generalize canon (Int.gcd (val l) (val l') : Int) = g at *
  obtain ⟨cz, hcz⟩ : ∃ cz : Int, cz = if d = 1 then 0 else 1 := ⟨_, rfl⟩
  have HC := Lib.hid (qCompare (l := canon (d : Int)) (l' := canon 1) hdl (by decide) (c := cz) (by rw [hcz, val_canon, val_canon]; unfold cmpZ; split <;> split <;> first | omega | (split <;> omega)))
  have HO := Lib.hid sOne
  generalize canon 1 = o at *
  generalize canon (d : Int) = D at *
  have x4 := FBox.new w (.string ⟨#[]⟩) (.string ⟨#[]⟩) 25
  have hb1 := below_alloc w (.cells #[.string ⟨#[]⟩, .string ⟨#[]⟩] 25)
  have HCZ := Lib.hid hcz
  clear hr hg0 hgl vg hfd hfn hdl hcz
  go_enter Tryz.func150, Tryz.ntmps150
  go_wp2_with fail
  ((with_reducible refine (HZ.out.of hG hb1).mono ?_); rintro e w1 ⟨rfl, hb2⟩)
  have hb := bto hb1 hb2
  have x4 := x4.below hb2
  go_wp2_with fail
  ((with_reducible refine (HGC.out.of hG hb).mono ?_); rintro e w2 ⟨rfl, hb2⟩)
  have hb := bto hb hb2
  have x4 := x4.below hb2
  go_wp2_with fail
  ((with_reducible refine (HE1.out.of hG hb).mono ?_); rintro e w3 ⟨rfl, hb2⟩)
  have hb := bto hb hb2
  have x4 := x4.below hb2
  go_wp2_with fail
  ((with_reducible refine (HE2.out.of hG hb).mono ?_); rintro e w4 ⟨rfl, hb2⟩)
  have hb := bto hb hb2
  have x4 := x4.below hb2
  have hl4 := x4.lt
  have x6 := FBox.new w4 (.string ⟨N.toArray⟩) (.string ⟨D.toArray⟩) 25
  have hal := below_alloc w4 (.cells #[.string ⟨N.toArray⟩, .string ⟨D.toArray⟩] 25)
  have x4 := x4.below hal
  have hb := bto hb hal
  clear hb2 hb1 hal
  go_wp2_with fail
  refine wp_region_kept (by kernel_rfl) (by kernel_rfl) ?_
  refine kept_val _ (fun _ => rfl) (fun ρ w hw => by go_simp; first | done | with_reducible rfl) ?_
  simp only [Act.put, List.setIfInBounds_toArray, List.set_cons_zero, List.set_cons_succ, Nat.reduceAdd]
  refine kept_val _ (fun _ => rfl) (fun ρ w hw => by have q0 := (x6.below hw).c0; have q1 := (x6.below hw).c1; go_simp; first | done | with_reducible rfl) ?_
  simp only [Act.put, List.setIfInBounds_toArray, List.set_cons_zero, List.set_cons_succ, Nat.reduceAdd]
  refine kept_call _ _ _ (fun _ => rfl) (fun ρ w hw => by go_simp; first | done | with_reducible rfl) (fun w hw => HO.out.of hG (bto hb hw)) ?_
  simp only [Act.put, List.setIfInBounds_toArray, List.set_cons_zero, List.set_cons_succ, Nat.reduceAdd]
  refine kept_call _ _ _ (fun _ => rfl) (fun ρ w hw => by go_simp; first | done | with_reducible rfl) (fun w hw => HC.out.of hG (bto hb hw)) ?_
  simp only [Act.put, List.setIfInBounds_toArray, List.set_cons_zero, List.set_cons_succ, Nat.reduceAdd]
  refine kept_val _ (fun _ => rfl) (fun ρ w hw => by go_simp; first | done | with_reducible rfl) ?_
  simp only [Act.put, List.setIfInBounds_toArray, List.set_cons_zero, List.set_cons_succ, Nat.reduceAdd]
  refine kept_end (fun ρ w5 hF => ?_)
  have hb5 := bto hb hF.below
  have x6 := x6.below hF.below
  have x4 := x4.below hF.below
  clear hF HZ HGC HE1 HE2 HC HO hb
  have hne : w.heap.size ≠ w4.heap.size := by omega
  have q0 := x6.c0
  have q1 := x6.c1
  have q2 := x6.f0
  have q3 := x6.f1
  have q4 := x4.c0
  have q5 := x4.c1
  have q6 := x4.f0
  have q7 := x4.f1
  by_cases hd : d = 1
  · have h00 : cz = 0 := by rw [HCZ.out, if_pos hd]
    subst h00
    have x6 := x6.set1 (.string ⟨#[]⟩)
    have x4 := x4.set1_ne hne (.string ⟨#[]⟩)
    have q0 := x6.c0
    have q1 := x6.c1
    have q4 := x4.c0
    have q5 := x4.c1
    have q6 := x4.f0
    have q7 := x4.f1
    clear HCZ
    go_wp2
    have hy := x4.set (.string ⟨N.toArray⟩) (.string ⟨#[]⟩)
    have d0 := hy.c0
    have d1 := hy.c1
    refine bodyPost_ret (v := .agg #[.string ⟨N.toArray⟩, .string ⟨#[]⟩]) (by simp [results, Tryz.results150, go_sem, d0, d1]) rfl ?_
    exact ⟨rfl, below_set2 (below_set1 hb5 (by omega) _ _) (Nat.le_refl _) _ _⟩
  · have h00 : cz = 1 := by rw [HCZ.out, if_neg hd]
    subst h00
    clear HCZ
    go_wp2
    have hy := x4.set (.string ⟨N.toArray⟩) (.string ⟨D.toArray⟩)
    have d0 := hy.c0
    have d1 := hy.c1
    refine bodyPost_ret (v := .agg #[.string ⟨N.toArray⟩, .string ⟨D.toArray⟩]) (by simp [results, Tryz.results150, go_sem, d0, d1]) rfl ?_
    exact ⟨rfl, below_set2 hb5 (Nat.le_refl _) _ _⟩
end
end Go.Proofs.YtgnppdkeiihlfaaGreatDoor
/- trancheref02: Canonical, Neg, Of. -/
namespace Go.Proofs.YtgnppdkeiihlfaaGreatDoor
open Go.RowKit Num
section
variable {l l' : List UInt8} {q : Rat}
theorem sRed (hl : l.length ≤ 3900) (hl' : l'.length ≤ 3900) (h1 : 0 < val l') (e : Rat.divInt (val l) (val l') = q) : Ret 150 #[.string ⟨l.toArray⟩, .string ⟨l'.toArray⟩] (Value.agg #[Value.string ⟨List.toArray (fN q)⟩, Value.string ⟨List.toArray (fD q)⟩]) := by
  subst e
  by_cases h0 : val l = 0
  · have : Rat.divInt (val l) (val l') = 0 := by rw [h0, Rat.zero_divInt]
    rw [this]
    exact sRed0 (Nat.le_trans hl (by decide)) h0
  · exact sRed1 hl hl' h0 h1
set_option maxHeartbeats 1000000 in
set_option maxRecDepth 100000 in
theorem sCanonical (hl : l.length ≤ 3800) (hl' : l'.length ≤ 3800) (e : fv l l' = q) : Ret 158 #[(Value.agg #[Value.string ⟨List.toArray l⟩, Value.string ⟨List.toArray l'⟩])] (Value.agg #[Value.string ⟨List.toArray (fN q)⟩, Value.string ⟨List.toArray (fD q)⟩]) := fun w hG => by
  have c1 := sRaw (l := l) (l' := l') (by omega) (by omega)
  have n1 := rawN_len l l'
  have n2 := rawD_len l'
  have c2 := sRed (l := rawN l l') (l' := rawD l') (by omega) (by omega) (rawD_pos l') ((raw_fv l l').trans e)
  generalize rawN l l' = A at *
  generalize rawD l' = B at *
  generalize fN q = N at *
  generalize fD q = D at *
  have H1 := Lib.hid c1
  have H2 := Lib.hid c2
  have x1 := (FBox.new w (.string ⟨l.toArray⟩) (.string ⟨l'.toArray⟩) 25).below (below_alloc _ (.cells #[.string ⟨#[]⟩, .string ⟨#[]⟩] 25))
  have x2 := FBox.new (w.alloc (.cells #[.string ⟨l.toArray⟩, .string ⟨l'.toArray⟩] 25)) (.string ⟨#[]⟩) (.string ⟨#[]⟩) 25
  rw [World.size_alloc] at x2
  have hb := bto (below_alloc w (.cells #[.string ⟨l.toArray⟩, .string ⟨l'.toArray⟩] 25)) (below_alloc _ (.cells #[.string ⟨#[]⟩, .string ⟨#[]⟩] 25))
  have q0 := x1.c0
  have q1 := x1.c1
  clear c1 c2 n1 n2 e
  go_enter Tryz.func158, Tryz.ntmps158
  go_wp2_with fail
  ((with_reducible refine (H1.out.of hG hb).mono ?_); rintro e w1 ⟨rfl, hb2⟩)
  have hb := bto hb hb2
  have x2 := x2.below hb2
  go_wp2_with fail
  ((with_reducible refine (H2.out.of hG hb).mono ?_); rintro e w2 ⟨rfl, hb3⟩)
  have hb := bto hb hb3
  have x2 := x2.below hb3
  have q2 := x2.c0
  have q3 := x2.c1
  have q4 := x2.f0
  have q5 := x2.f1
  go_wp2
  have hy := x2.set (.string ⟨N.toArray⟩) (.string ⟨D.toArray⟩)
  have d0 := hy.c0
  have d1 := hy.c1
  refine bodyPost_ret (v := .agg #[.string ⟨N.toArray⟩, .string ⟨D.toArray⟩]) (by simp [results, Tryz.results158, go_sem, d0, d1]) rfl ?_
  exact ⟨rfl, below_set2 hb (Nat.le_succ _) _ _⟩
end
end Go.Proofs.YtgnppdkeiihlfaaGreatDoor
/- trancheref02: Neg. -/
namespace Go.Proofs.YtgnppdkeiihlfaaGreatDoor
open Go.RowKit Num
section
variable {l l' : List UInt8} {q : Rat}
set_option maxHeartbeats 1000000 in
set_option maxRecDepth 100000 in
theorem sNeg (hl : l.length ≤ 3800) (hl' : l'.length ≤ 3800) (e : -fv l l' = q) : Ret 151 #[(Value.agg #[Value.string ⟨List.toArray l⟩, Value.string ⟨List.toArray l'⟩])] (Value.agg #[Value.string ⟨List.toArray (fN q)⟩, Value.string ⟨List.toArray (fD q)⟩]) := fun w hG => by
  have c0 := sRaw (l := l) (l' := l') (by omega) (by omega)
  have n1 := rawN_len l l'
  have n2 := rawD_len l'
  have n3 : (canon (-val (rawN l l'))).length ≤ 3900 := Nat.le_trans (canon_len_le _ _ (by rw [Int.natAbs_neg]; exact val_lt (rawN l l'))) (by omega)
  have c1 := qNeg (l := rawN l l') (by omega) rfl
  have c2 := sRed (l := canon (-val (rawN l l'))) (l' := rawD l') n3 (by omega) (rawD_pos l') (q := q) (by rw [val_canon, ← Rat.neg_divInt, raw_fv]; exact e)
  generalize canon (-val (rawN l l')) = M at *
  generalize rawN l l' = A at *
  generalize rawD l' = B at *
  generalize fN q = N at *
  generalize fD q = D at *
  have H0 := Lib.hid c0
  have H1 := Lib.hid c1
  have H2 := Lib.hid c2
  have x0 := ((FBox.new w (.string ⟨l.toArray⟩) (.string ⟨l'.toArray⟩) 25).below (below_alloc _ (.cells #[.string ⟨#[]⟩, .string ⟨#[]⟩] 25)))
  have x1 := (FBox.new (w.alloc (.cells #[.string ⟨l.toArray⟩, .string ⟨l'.toArray⟩] 25)) (.string ⟨#[]⟩) (.string ⟨#[]⟩) 25)
  simp only [World.size_alloc] at x1
  have hb := (bto (below_alloc w (.cells #[.string ⟨l.toArray⟩, .string ⟨l'.toArray⟩] 25)) (below_alloc _ (.cells #[.string ⟨#[]⟩, .string ⟨#[]⟩] 25)))
  have q0 := x0.c0
  have q1 := x0.c1
  have q2 := x1.c0
  have q3 := x1.c1
  clear c0 c1 c2 n1 n2 n3 e
  go_enter Tryz.func151, Tryz.ntmps151
  go_wp2_with fail
  ((with_reducible refine (H0.out.of hG hb).mono ?_); rintro e w1 ⟨rfl, hc⟩)
  have hb := bto hb hc
  have x0 := x0.below hc
  have x1 := x1.below hc
  have q0 := x0.c0
  have q1 := x0.c1
  have q2 := x1.c0
  have q3 := x1.c1
  clear hc
  go_wp2_with fail
  ((with_reducible refine (H1.out.of hG hb).mono ?_); rintro e w2 ⟨rfl, hc⟩)
  have hb := bto hb hc
  have x0 := x0.below hc
  have x1 := x1.below hc
  have q0 := x0.c0
  have q1 := x0.c1
  have q2 := x1.c0
  have q3 := x1.c1
  clear hc
  go_wp2_with fail
  ((with_reducible refine (H2.out.of hG hb).mono ?_); rintro e w3 ⟨rfl, hc⟩)
  have hb := bto hb hc
  have x0 := x0.below hc
  have x1 := x1.below hc
  have q0 := x0.c0
  have q1 := x0.c1
  have q2 := x1.c0
  have q3 := x1.c1
  clear hc
  have q90 := x1.f0
  have q91 := x1.f1
  go_wp2
  have hy := x1.set (.string ⟨N.toArray⟩) (.string ⟨D.toArray⟩)
  have d0 := hy.c0
  have d1 := hy.c1
  refine bodyPost_ret (v := .agg #[.string ⟨N.toArray⟩, .string ⟨D.toArray⟩]) (by simp [results, Tryz.results151, go_sem, d0, d1]) rfl ?_
  exact ⟨rfl, below_set2 hb (by omega) _ _⟩
end
end Go.Proofs.YtgnppdkeiihlfaaGreatDoor
/- trancheref02: Mul. -/
namespace Go.Proofs.YtgnppdkeiihlfaaGreatDoor
open Go.RowKit Num
section
variable {l l' k k' : List UInt8} {q : Rat}
set_option maxHeartbeats 1000000 in
set_option maxRecDepth 100000 in
theorem sMul (hl : l.length ≤ 900) (hl' : l'.length ≤ 900) (hk : k.length ≤ 900) (hk' : k'.length ≤ 900) (e : fv l l' * fv k k' = q) : Ret 87 #[(Value.agg #[Value.string ⟨List.toArray l⟩, Value.string ⟨List.toArray l'⟩]), (Value.agg #[Value.string ⟨List.toArray k⟩, Value.string ⟨List.toArray k'⟩])] (Value.agg #[Value.string ⟨List.toArray (fN q)⟩, Value.string ⟨List.toArray (fD q)⟩]) := fun w hG => by
  have c0 := sRaw (l := l) (l' := l') (by omega) (by omega)
  have c1 := sRaw (l := k) (l' := k') (by omega) (by omega)
  have n1 := rawN_len l l'
  have n2 := rawD_len l'
  have n3 := rawN_len k k'
  have n4 := rawD_len k'
  have p1 := rawD_pos l'
  have p2 := rawD_pos k'
  rw [← raw_fv l l', ← raw_fv k k'] at e
  generalize rawN l l' = A at *
  generalize rawD l' = B at *
  generalize rawN k k' = C at *
  generalize rawD k' = E at *
  have m1 : (canon (val A * val C)).length ≤ 3900 := Nat.le_trans (canon_len_le _ (A.length + C.length) (by rw [Int.natAbs_mul, Nat.pow_add]; exact Nat.mul_lt_mul'' (val_lt A) (val_lt C))) (by omega)
  have m2 : (canon (val B * val E)).length ≤ 3900 := Nat.le_trans (canon_len_le _ (B.length + E.length) (by rw [Int.natAbs_mul, Nat.pow_add]; exact Nat.mul_lt_mul'' (val_lt B) (val_lt E))) (by omega)
  have c2 := qMul (l := A) (l' := C) (by omega) (by omega) rfl
  have c3 := qMul (l := B) (l' := E) (by omega) (by omega) rfl
  have c4 := sRed (l := canon (val A * val C)) (l' := canon (val B * val E)) m1 m2 (by rw [val_canon]; exact Int.mul_pos p1 p2) (q := q) (by rw [val_canon, val_canon, ← Rat.divInt_mul_divInt]; exact e)
  generalize canon (val A * val C) = X at *
  generalize canon (val B * val E) = Y at *
  generalize fN q = N at *
  generalize fD q = D at *
  have H0 := Lib.hid c0
  have H1 := Lib.hid c1
  have H2 := Lib.hid c2
  have H3 := Lib.hid c3
  have H4 := Lib.hid c4
  have x0 := (((FBox.new w (.string ⟨l.toArray⟩) (.string ⟨l'.toArray⟩) 25).below (below_alloc _ (.cells #[.string ⟨k.toArray⟩, .string ⟨k'.toArray⟩] 25))).below (below_alloc _ (.cells #[.string ⟨#[]⟩, .string ⟨#[]⟩] 25)))
  have x1 := ((FBox.new (w.alloc (.cells #[.string ⟨l.toArray⟩, .string ⟨l'.toArray⟩] 25)) (.string ⟨k.toArray⟩) (.string ⟨k'.toArray⟩) 25).below (below_alloc _ (.cells #[.string ⟨#[]⟩, .string ⟨#[]⟩] 25)))
  simp only [World.size_alloc] at x1
  have x2 := (FBox.new ((w.alloc (.cells #[.string ⟨l.toArray⟩, .string ⟨l'.toArray⟩] 25)).alloc (.cells #[.string ⟨k.toArray⟩, .string ⟨k'.toArray⟩] 25)) (.string ⟨#[]⟩) (.string ⟨#[]⟩) 25)
  simp only [World.size_alloc] at x2
  have hb := (bto (bto (below_alloc w (.cells #[.string ⟨l.toArray⟩, .string ⟨l'.toArray⟩] 25)) (below_alloc _ (.cells #[.string ⟨k.toArray⟩, .string ⟨k'.toArray⟩] 25))) (below_alloc _ (.cells #[.string ⟨#[]⟩, .string ⟨#[]⟩] 25)))
  have q0 := x0.c0
  have q1 := x0.c1
  have q2 := x1.c0
  have q3 := x1.c1
  have q4 := x2.c0
  have q5 := x2.c1
  clear c0 c1 c2 c3 c4 n1 n2 n3 n4 p1 p2 m1 m2 e
  go_enter Tryz.func87, Tryz.ntmps87
  go_wp2_with fail
  ((with_reducible refine (H0.out.of hG hb).mono ?_); rintro e w1 ⟨rfl, hc⟩)
  have hb := bto hb hc
  have x0 := x0.below hc
  have x1 := x1.below hc
  have x2 := x2.below hc
  have q0 := x0.c0
  have q1 := x0.c1
  have q2 := x1.c0
  have q3 := x1.c1
  have q4 := x2.c0
  have q5 := x2.c1
  clear hc
  go_wp2_with fail
  ((with_reducible refine (H1.out.of hG hb).mono ?_); rintro e w2 ⟨rfl, hc⟩)
  have hb := bto hb hc
  have x0 := x0.below hc
  have x1 := x1.below hc
  have x2 := x2.below hc
  have q0 := x0.c0
  have q1 := x0.c1
  have q2 := x1.c0
  have q3 := x1.c1
  have q4 := x2.c0
  have q5 := x2.c1
  clear hc
  go_wp2_with fail
  ((with_reducible refine (H2.out.of hG hb).mono ?_); rintro e w3 ⟨rfl, hc⟩)
  have hb := bto hb hc
  have x0 := x0.below hc
  have x1 := x1.below hc
  have x2 := x2.below hc
  have q0 := x0.c0
  have q1 := x0.c1
  have q2 := x1.c0
  have q3 := x1.c1
  have q4 := x2.c0
  have q5 := x2.c1
  clear hc
  go_wp2_with fail
  ((with_reducible refine (H3.out.of hG hb).mono ?_); rintro e w4 ⟨rfl, hc⟩)
  have hb := bto hb hc
  have x0 := x0.below hc
  have x1 := x1.below hc
  have x2 := x2.below hc
  have q0 := x0.c0
  have q1 := x0.c1
  have q2 := x1.c0
  have q3 := x1.c1
  have q4 := x2.c0
  have q5 := x2.c1
  clear hc
  go_wp2_with fail
  ((with_reducible refine (H4.out.of hG hb).mono ?_); rintro e w5 ⟨rfl, hc⟩)
  have hb := bto hb hc
  have x0 := x0.below hc
  have x1 := x1.below hc
  have x2 := x2.below hc
  have q0 := x0.c0
  have q1 := x0.c1
  have q2 := x1.c0
  have q3 := x1.c1
  have q4 := x2.c0
  have q5 := x2.c1
  clear hc
  have q90 := x2.f0
  have q91 := x2.f1
  go_wp2
  have hy := x2.set (.string ⟨N.toArray⟩) (.string ⟨D.toArray⟩)
  have d0 := hy.c0
  have d1 := hy.c1
  refine bodyPost_ret (v := .agg #[.string ⟨N.toArray⟩, .string ⟨D.toArray⟩]) (by simp [results, Tryz.results87, go_sem, d0, d1]) rfl ?_
  exact ⟨rfl, below_set2 hb (by omega) _ _⟩
end
end Go.Proofs.YtgnppdkeiihlfaaGreatDoor
/- trancheref02: Add. -/
namespace Go.Proofs.YtgnppdkeiihlfaaGreatDoor
open Go.RowKit Num
section
variable {l l' k k' : List UInt8} {q : Rat}
set_option maxHeartbeats 1000000 in
set_option maxRecDepth 100000 in
theorem sAdd (hl : l.length ≤ 900) (hl' : l'.length ≤ 900) (hk : k.length ≤ 900) (hk' : k'.length ≤ 900) (e : fv l l' + fv k k' = q) : Ret 96 #[(Value.agg #[Value.string ⟨List.toArray l⟩, Value.string ⟨List.toArray l'⟩]), (Value.agg #[Value.string ⟨List.toArray k⟩, Value.string ⟨List.toArray k'⟩])] (Value.agg #[Value.string ⟨List.toArray (fN q)⟩, Value.string ⟨List.toArray (fD q)⟩]) := fun w hG => by
  have c0 := sRaw (l := l) (l' := l') (by omega) (by omega)
  have c1 := sRaw (l := k) (l' := k') (by omega) (by omega)
  have n1 := rawN_len l l'
  have n2 := rawD_len l'
  have n3 := rawN_len k k'
  have n4 := rawD_len k'
  have p1 := rawD_pos l'
  have p2 := rawD_pos k'
  rw [← raw_fv l l', ← raw_fv k k'] at e
  generalize rawN l l' = A at *
  generalize rawD l' = B at *
  generalize rawN k k' = C at *
  generalize rawD k' = E at *
  have t1 : (val A * val E).natAbs < 10 ^ (A.length + E.length) := by rw [Int.natAbs_mul, Nat.pow_add]; exact Nat.mul_lt_mul'' (val_lt A) (val_lt E)
  have t2 : (val C * val B).natAbs < 10 ^ (C.length + B.length) := by rw [Int.natAbs_mul, Nat.pow_add]; exact Nat.mul_lt_mul'' (val_lt C) (val_lt B)
  have m1 := canon_len_le _ _ t1
  have m2 := canon_len_le _ _ t2
  have m3 : (canon (val B * val E)).length ≤ 3900 := Nat.le_trans (canon_len_le _ (B.length + E.length) (by rw [Int.natAbs_mul, Nat.pow_add]; exact Nat.mul_lt_mul'' (val_lt B) (val_lt E))) (by omega)
  have m4 : (canon (val A * val E + val C * val B)).length ≤ 3900 := by
    refine Nat.le_trans (canon_len_le _ (A.length + E.length + (C.length + B.length) + 1) ?_) (by omega)
    have u1 : 10 ^ (A.length + E.length) ≤ 10 ^ (A.length + E.length + (C.length + B.length)) := Nat.pow_le_pow_right (by decide) (by omega)
    have u2 : 10 ^ (C.length + B.length) ≤ 10 ^ (A.length + E.length + (C.length + B.length)) := Nat.pow_le_pow_right (by decide) (by omega)
    rw [Nat.pow_succ]
    omega
  have c2 := qMul (l := A) (l' := E) (by omega) (by omega) rfl
  have c3 := qMul (l := C) (l' := B) (by omega) (by omega) rfl
  have c4 := qAdd (l := canon (val A * val E)) (l' := canon (val C * val B)) (by omega) (by omega) (z := val A * val E + val C * val B) (by rw [val_canon, val_canon])
  have c5 := qMul (l := B) (l' := E) (by omega) (by omega) rfl
  have c6 := sRed (l := canon (val A * val E + val C * val B)) (l' := canon (val B * val E)) m4 m3 (by rw [val_canon]; exact Int.mul_pos p1 p2) (q := q) (by rw [val_canon, val_canon, ← Rat.divInt_add_divInt _ _ (by omega) (by omega)]; exact e)
  generalize canon (val A * val E + val C * val B) = X at *
  generalize canon (val B * val E) = Y at *
  generalize canon (val A * val E) = U at *
  generalize canon (val C * val B) = V at *
  generalize fN q = N at *
  generalize fD q = D at *
  have H0 := Lib.hid c0
  have H1 := Lib.hid c1
  have H2 := Lib.hid c2
  have H3 := Lib.hid c3
  have H4 := Lib.hid c4
  have H5 := Lib.hid c5
  have H6 := Lib.hid c6
  have x0 := (((FBox.new w (.string ⟨l.toArray⟩) (.string ⟨l'.toArray⟩) 25).below (below_alloc _ (.cells #[.string ⟨k.toArray⟩, .string ⟨k'.toArray⟩] 25))).below (below_alloc _ (.cells #[.string ⟨#[]⟩, .string ⟨#[]⟩] 25)))
  have x1 := ((FBox.new (w.alloc (.cells #[.string ⟨l.toArray⟩, .string ⟨l'.toArray⟩] 25)) (.string ⟨k.toArray⟩) (.string ⟨k'.toArray⟩) 25).below (below_alloc _ (.cells #[.string ⟨#[]⟩, .string ⟨#[]⟩] 25)))
  simp only [World.size_alloc] at x1
  have x2 := (FBox.new ((w.alloc (.cells #[.string ⟨l.toArray⟩, .string ⟨l'.toArray⟩] 25)).alloc (.cells #[.string ⟨k.toArray⟩, .string ⟨k'.toArray⟩] 25)) (.string ⟨#[]⟩) (.string ⟨#[]⟩) 25)
  simp only [World.size_alloc] at x2
  have hb := (bto (bto (below_alloc w (.cells #[.string ⟨l.toArray⟩, .string ⟨l'.toArray⟩] 25)) (below_alloc _ (.cells #[.string ⟨k.toArray⟩, .string ⟨k'.toArray⟩] 25))) (below_alloc _ (.cells #[.string ⟨#[]⟩, .string ⟨#[]⟩] 25)))
  have q0 := x0.c0
  have q1 := x0.c1
  have q2 := x1.c0
  have q3 := x1.c1
  have q4 := x2.c0
  have q5 := x2.c1
  clear c0 c1 c2 c3 c4 c5 c6 n1 n2 n3 n4 p1 p2 m1 m2 m3 m4 t1 t2 e
  go_enter Tryz.func96, Tryz.ntmps96
  go_wp2_with fail
  ((with_reducible refine (H0.out.of hG hb).mono ?_); rintro e w1 ⟨rfl, hc⟩)
  have hb := bto hb hc
  have x0 := x0.below hc
  have x1 := x1.below hc
  have x2 := x2.below hc
  have q0 := x0.c0
  have q1 := x0.c1
  have q2 := x1.c0
  have q3 := x1.c1
  have q4 := x2.c0
  have q5 := x2.c1
  clear hc
  go_wp2_with fail
  ((with_reducible refine (H1.out.of hG hb).mono ?_); rintro e w2 ⟨rfl, hc⟩)
  have hb := bto hb hc
  have x0 := x0.below hc
  have x1 := x1.below hc
  have x2 := x2.below hc
  have q0 := x0.c0
  have q1 := x0.c1
  have q2 := x1.c0
  have q3 := x1.c1
  have q4 := x2.c0
  have q5 := x2.c1
  clear hc
  go_wp2_with fail
  ((with_reducible refine (H2.out.of hG hb).mono ?_); rintro e w3 ⟨rfl, hc⟩)
  have hb := bto hb hc
  have x0 := x0.below hc
  have x1 := x1.below hc
  have x2 := x2.below hc
  have q0 := x0.c0
  have q1 := x0.c1
  have q2 := x1.c0
  have q3 := x1.c1
  have q4 := x2.c0
  have q5 := x2.c1
  clear hc
  go_wp2_with fail
  ((with_reducible refine (H3.out.of hG hb).mono ?_); rintro e w4 ⟨rfl, hc⟩)
  have hb := bto hb hc
  have x0 := x0.below hc
  have x1 := x1.below hc
  have x2 := x2.below hc
  have q0 := x0.c0
  have q1 := x0.c1
  have q2 := x1.c0
  have q3 := x1.c1
  have q4 := x2.c0
  have q5 := x2.c1
  clear hc
  go_wp2_with fail
  ((with_reducible refine (H4.out.of hG hb).mono ?_); rintro e w5 ⟨rfl, hc⟩)
  have hb := bto hb hc
  have x0 := x0.below hc
  have x1 := x1.below hc
  have x2 := x2.below hc
  have q0 := x0.c0
  have q1 := x0.c1
  have q2 := x1.c0
  have q3 := x1.c1
  have q4 := x2.c0
  have q5 := x2.c1
  clear hc
  go_wp2_with fail
  ((with_reducible refine (H5.out.of hG hb).mono ?_); rintro e w6 ⟨rfl, hc⟩)
  have hb := bto hb hc
  have x0 := x0.below hc
  have x1 := x1.below hc
  have x2 := x2.below hc
  have q0 := x0.c0
  have q1 := x0.c1
  have q2 := x1.c0
  have q3 := x1.c1
  have q4 := x2.c0
  have q5 := x2.c1
  clear hc
  go_wp2_with fail
  ((with_reducible refine (H6.out.of hG hb).mono ?_); rintro e w7 ⟨rfl, hc⟩)
  have hb := bto hb hc
  have x0 := x0.below hc
  have x1 := x1.below hc
  have x2 := x2.below hc
  have q0 := x0.c0
  have q1 := x0.c1
  have q2 := x1.c0
  have q3 := x1.c1
  have q4 := x2.c0
  have q5 := x2.c1
  clear hc
  have q90 := x2.f0
  have q91 := x2.f1
  go_wp2
  have hy := x2.set (.string ⟨N.toArray⟩) (.string ⟨D.toArray⟩)
  have d0 := hy.c0
  have d1 := hy.c1
  refine bodyPost_ret (v := .agg #[.string ⟨N.toArray⟩, .string ⟨D.toArray⟩]) (by simp [results, Tryz.results96, go_sem, d0, d1]) rfl ?_
  exact ⟨rfl, below_set2 hb (by omega) _ _⟩
end
end Go.Proofs.YtgnppdkeiihlfaaGreatDoor
/- trancheref02: Compare's plain law. -/
namespace Go.Proofs.YtgnppdkeiihlfaaGreatDoor
open Go.RowKit Num
theorem cmp_cross {a b c e : Int} (hb : 0 < b) (he : 0 < e) : cmpZ (a * e) (c * b) = cmpQ (Rat.divInt a b) (Rat.divInt c e) := by
  have h1 : Rat.divInt a b - Rat.divInt c e = Rat.divInt (a * e - c * b) (b * e) := Rat.divInt_sub_divInt _ _ (by omega) (by omega)
  unfold cmpQ
  rw [h1]
  have hp : 0 < b * e := Int.mul_pos hb he
  generalize a * e = x at *
  generalize c * b = y at *
  generalize b * e = d at *
  have s1 : 0 ≤ (Rat.divInt (x - y) d).num ↔ 0 ≤ x - y := by rw [Rat.num_nonneg, Rat.divInt_nonneg_iff_of_pos_right hp]
  have s2 : (Rat.divInt (x - y) d).num = 0 ↔ x - y = 0 := by
    have s3 : 0 ≤ (Rat.divInt (-(x - y)) d).num ↔ 0 ≤ -(x - y) := by rw [Rat.num_nonneg, Rat.divInt_nonneg_iff_of_pos_right hp]
    rw [← Rat.neg_divInt, Rat.neg_num] at s3
    omega
  generalize (Rat.divInt (x - y) d).num = m at *
  unfold cmpZ
  split <;> split <;> first | omega | (split <;> first | omega | (split <;> omega))
end Go.Proofs.YtgnppdkeiihlfaaGreatDoor
/- trancheref02: Compare. -/
namespace Go.Proofs.YtgnppdkeiihlfaaGreatDoor
open Go.RowKit Num
section
variable {l l' k k' : List UInt8}
set_option maxHeartbeats 1000000 in
set_option maxRecDepth 100000 in
theorem sCompare (hl : l.length ≤ 900) (hl' : l'.length ≤ 900) (hk : k.length ≤ 900) (hk' : k'.length ≤ 900) {c : Int} (e : cmpQ (fv l l') (fv k k') = c) : Ret 147 #[(Value.agg #[Value.string ⟨List.toArray l⟩, Value.string ⟨List.toArray l'⟩]), (Value.agg #[Value.string ⟨List.toArray k⟩, Value.string ⟨List.toArray k'⟩])] (.int .i64 c) := fun w hG => by
  have c0 := sRaw (l := l) (l' := l') (by omega) (by omega)
  have c1 := sRaw (l := k) (l' := k') (by omega) (by omega)
  have n1 := rawN_len l l'
  have n2 := rawD_len l'
  have n3 := rawN_len k k'
  have n4 := rawD_len k'
  have p1 := rawD_pos l'
  have p2 := rawD_pos k'
  rw [← raw_fv l l', ← raw_fv k k'] at e
  generalize rawN l l' = A at *
  generalize rawD l' = B at *
  generalize rawN k k' = C at *
  generalize rawD k' = E at *
  have t1 : (val A * val E).natAbs < 10 ^ (A.length + E.length) := by rw [Int.natAbs_mul, Nat.pow_add]; exact Nat.mul_lt_mul'' (val_lt A) (val_lt E)
  have t2 : (val C * val B).natAbs < 10 ^ (C.length + B.length) := by rw [Int.natAbs_mul, Nat.pow_add]; exact Nat.mul_lt_mul'' (val_lt C) (val_lt B)
  have m1 := canon_len_le _ _ t1
  have m2 := canon_len_le _ _ t2
  have c2 := qMul (l := A) (l' := E) (by omega) (by omega) rfl
  have c3 := qMul (l := C) (l' := B) (by omega) (by omega) rfl
  have c4 := qCompare (l := canon (val A * val E)) (l' := canon (val C * val B)) (by omega) (by omega) (c := c) (by rw [val_canon, val_canon, cmp_cross p1 p2]; exact e)
  generalize canon (val A * val E) = U at *
  generalize canon (val C * val B) = V at *
  have H0 := Lib.hid c0
  have H1 := Lib.hid c1
  have H2 := Lib.hid c2
  have H3 := Lib.hid c3
  have H4 := Lib.hid c4
  have x0 := ((FBox.new w (.string ⟨l.toArray⟩) (.string ⟨l'.toArray⟩) 25).below (below_alloc _ (.cells #[.string ⟨k.toArray⟩, .string ⟨k'.toArray⟩] 25)))
  have x1 := (FBox.new (w.alloc (.cells #[.string ⟨l.toArray⟩, .string ⟨l'.toArray⟩] 25)) (.string ⟨k.toArray⟩) (.string ⟨k'.toArray⟩) 25)
  simp only [World.size_alloc] at x1
  have hb := (bto (below_alloc w (.cells #[.string ⟨l.toArray⟩, .string ⟨l'.toArray⟩] 25)) (below_alloc _ (.cells #[.string ⟨k.toArray⟩, .string ⟨k'.toArray⟩] 25)))
  have q0 := x0.c0
  have q1 := x0.c1
  have q2 := x1.c0
  have q3 := x1.c1
  clear c0 c1 c2 c3 c4 n1 n2 n3 n4 p1 p2 m1 m2 t1 t2 e
  go_enter Tryz.func147, Tryz.ntmps147
  go_wp2_with fail
  ((with_reducible refine (H0.out.of hG hb).mono ?_); rintro e w1 ⟨rfl, hc⟩)
  have hb := bto hb hc
  have x0 := x0.below hc
  have x1 := x1.below hc
  have q0 := x0.c0
  have q1 := x0.c1
  have q2 := x1.c0
  have q3 := x1.c1
  clear hc
  go_wp2_with fail
  ((with_reducible refine (H1.out.of hG hb).mono ?_); rintro e w2 ⟨rfl, hc⟩)
  have hb := bto hb hc
  have x0 := x0.below hc
  have x1 := x1.below hc
  have q0 := x0.c0
  have q1 := x0.c1
  have q2 := x1.c0
  have q3 := x1.c1
  clear hc
  go_wp2_with fail
  ((with_reducible refine (H2.out.of hG hb).mono ?_); rintro e w3 ⟨rfl, hc⟩)
  have hb := bto hb hc
  have x0 := x0.below hc
  have x1 := x1.below hc
  have q0 := x0.c0
  have q1 := x0.c1
  have q2 := x1.c0
  have q3 := x1.c1
  clear hc
  go_wp2_with fail
  ((with_reducible refine (H3.out.of hG hb).mono ?_); rintro e w4 ⟨rfl, hc⟩)
  have hb := bto hb hc
  have x0 := x0.below hc
  have x1 := x1.below hc
  have q0 := x0.c0
  have q1 := x0.c1
  have q2 := x1.c0
  have q3 := x1.c1
  clear hc
  go_wp2_with fail
  ((with_reducible refine (H4.out.of hG hb).mono ?_); rintro e w5 ⟨rfl, hc⟩)
  have hb := bto hb hc
  have x0 := x0.below hc
  have x1 := x1.below hc
  have q0 := x0.c0
  have q1 := x0.c1
  have q2 := x1.c0
  have q3 := x1.c1
  clear hc
  go_wp2
  go_ret
  exact ⟨rfl, hb⟩
end
end Go.Proofs.YtgnppdkeiihlfaaGreatDoor
/- trancheref02: Of. -/
namespace Go.Proofs.YtgnppdkeiihlfaaGreatDoor
open Go.RowKit Num
section
variable {l : List UInt8} {q : Rat}
set_option maxHeartbeats 1000000 in
set_option maxRecDepth 100000 in
theorem sOf (hl : l.length ≤ 3900) (e : Rat.divInt (val l) 1 = q) : Ret 89 #[.string ⟨l.toArray⟩] (Value.agg #[Value.string ⟨List.toArray (fN q)⟩, Value.string ⟨List.toArray (fD q)⟩]) := fun w hG => by
  have c1 := sRed (l := l) (l' := canon 1) hl (by decide) (by rw [val_canon]; decide) (q := q) (by rw [val_canon]; exact e)
  have c0 := sOne
  generalize canon 1 = o at *
  generalize fN q = N at *
  generalize fD q = D at *
  have H0 := Lib.hid c0
  have H1 := Lib.hid c1
  have x0 := (FBox.new w (.string ⟨#[]⟩) (.string ⟨#[]⟩) 25)
  have hb := (below_alloc w (.cells #[.string ⟨#[]⟩, .string ⟨#[]⟩] 25))
  have q0 := x0.c0
  have q1 := x0.c1
  clear c0 c1 e
  go_enter Tryz.func89, Tryz.ntmps89
  go_wp2_with fail
  ((with_reducible refine (H0.out.of hG hb).mono ?_); rintro e w1 ⟨rfl, hc⟩)
  have hb := bto hb hc
  have x0 := x0.below hc
  have q0 := x0.c0
  have q1 := x0.c1
  clear hc
  go_wp2_with fail
  ((with_reducible refine (H1.out.of hG hb).mono ?_); rintro e w2 ⟨rfl, hc⟩)
  have hb := bto hb hc
  have x0 := x0.below hc
  have q0 := x0.c0
  have q1 := x0.c1
  clear hc
  have q90 := x0.f0
  have q91 := x0.f1
  go_wp2
  have hy := x0.set (.string ⟨N.toArray⟩) (.string ⟨D.toArray⟩)
  have d0 := hy.c0
  have d1 := hy.c1
  refine bodyPost_ret (v := .agg #[.string ⟨N.toArray⟩, .string ⟨D.toArray⟩]) (by simp [results, Tryz.results89, go_sem, d0, d1]) rfl ?_
  exact ⟨rfl, below_set2 hb (by omega) _ _⟩
end
end Go.Proofs.YtgnppdkeiihlfaaGreatDoor
/- trancheref02: New. -/
namespace Go.Proofs.YtgnppdkeiihlfaaGreatDoor
open Go.RowKit Num
section
variable {l l' : List UInt8} {q : Rat}
set_option maxHeartbeats 1000000 in
set_option maxRecDepth 100000 in
theorem sNew0 (hl' : l'.length ≤ 1000000) (h0 : val l' = 0) : Ret 95 #[.string ⟨l.toArray⟩, .string ⟨l'.toArray⟩] (.tuple #[.agg #[.string ⟨#[]⟩, .string ⟨#[]⟩], .int .i64 10]) := fun w hG => by
  have HZ := Lib.hid (sZero (l := l') hl' (b := true) (decide_eq_true h0))
  have x4 := FBox.new w (.string ⟨#[]⟩) (.string ⟨#[]⟩) 25
  have hb1 := below_alloc w (.cells #[.string ⟨#[]⟩, .string ⟨#[]⟩] 25)
  go_enter Tryz.func95, Tryz.ntmps95
  go_wp2_with fail
  ((with_reducible refine (HZ.out.of hG hb1).mono ?_); rintro e w1 ⟨rfl, hb2⟩)
  have x4 := x4.below hb2
  have hb := bto hb1 hb2
  have q0 := x4.c0
  have q1 := x4.c1
  have q2 := x4.f0
  have q3 := x4.f1
  go_wp2
  have hy := x4.set (.string ⟨#[]⟩) (.string ⟨#[]⟩)
  have d0 := hy.c0
  have d1 := hy.c1
  refine bodyPost_ret (v := .tuple #[.agg #[.string ⟨#[]⟩, .string ⟨#[]⟩], .int .i64 10]) (by simp [results, Tryz.results95, go_sem, d0, d1]) rfl ?_
  exact ⟨rfl, below_set2 hb (Nat.le_refl _) _ _⟩
set_option maxHeartbeats 1000000 in
set_option maxRecDepth 100000 in
theorem sNew1 (hl : l.length ≤ 3800) (hl' : l'.length ≤ 3800) (h0 : val l' ≠ 0) (e : fv l l' = q) : Ret 95 #[.string ⟨l.toArray⟩, .string ⟨l'.toArray⟩] (.tuple #[(Value.agg #[Value.string ⟨List.toArray (fN q)⟩, Value.string ⟨List.toArray (fD q)⟩]), .int .i64 0]) := fun w hG => by
  have HZ := Lib.hid (sZero (l := l') (by omega) (b := false) (decide_eq_false h0))
  have HC := Lib.hid (sCanonical hl hl' e)
  generalize fN q = N at *
  generalize fD q = D at *
  have x4 := FBox.new w (.string ⟨#[]⟩) (.string ⟨#[]⟩) 25
  have hb1 := below_alloc w (.cells #[.string ⟨#[]⟩, .string ⟨#[]⟩] 25)
  clear e
  go_enter Tryz.func95, Tryz.ntmps95
  go_wp2_with fail
  ((with_reducible refine (HZ.out.of hG hb1).mono ?_); rintro e w1 ⟨rfl, hb2⟩)
  have x4 := x4.below hb2
  have hb := bto hb1 hb2
  go_wp2_with fail
  ((with_reducible refine (HC.out.of hG hb).mono ?_); rintro e w2 ⟨rfl, hb2⟩)
  have x4 := x4.below hb2
  have hb := bto hb hb2
  have q0 := x4.c0
  have q1 := x4.c1
  have q2 := x4.f0
  have q3 := x4.f1
  go_wp2
  have hy := x4.set (.string ⟨N.toArray⟩) (.string ⟨D.toArray⟩)
  have d0 := hy.c0
  have d1 := hy.c1
  refine bodyPost_ret (v := .tuple #[.agg #[.string ⟨N.toArray⟩, .string ⟨D.toArray⟩], .int .i64 0]) (by simp [results, Tryz.results95, go_sem, d0, d1]) rfl ?_
  exact ⟨rfl, below_set2 hb (Nat.le_refl _) _ _⟩
end
end Go.Proofs.YtgnppdkeiihlfaaGreatDoor
/- trancheref02: Sub. -/
namespace Go.Proofs.YtgnppdkeiihlfaaGreatDoor
open Go.RowKit Num
section
variable {l l' k k' : List UInt8} {q : Rat}
set_option maxHeartbeats 2000000 in
set_option maxRecDepth 100000 in
theorem sSub (hl : l.length ≤ 900) (hl' : l'.length ≤ 900) (hk : k.length ≤ 900) (hk' : k'.length ≤ 900) (hn : (fN (-fv k k')).length ≤ 900) (hd : (fD (-fv k k')).length ≤ 900) (e : fv l l' - fv k k' = q) : Ret 88 #[(Value.agg #[Value.string ⟨List.toArray l⟩, Value.string ⟨List.toArray l'⟩]), (Value.agg #[Value.string ⟨List.toArray k⟩, Value.string ⟨List.toArray k'⟩])] (Value.agg #[Value.string ⟨List.toArray (fN q)⟩, Value.string ⟨List.toArray (fD q)⟩]) := fun w hG => by
  have c1 := sNeg (l := k) (l' := k') (by omega) (by omega) rfl
  have c2 := sAdd (l := l) (l' := l') (k := fN (-fv k k')) (k' := fD (-fv k k')) (by omega) (by omega) hn hd (q := q) (by rw [fv_frac, ← e, Rat.sub_eq_add_neg])
  generalize fN (-fv k k') = M at *
  generalize fD (-fv k k') = E at *
  generalize fN q = N at *
  generalize fD q = D at *
  have H1 := Lib.hid c1
  have H2 := Lib.hid c2
  have X0 := ((FBox.new w (.string ⟨l.toArray⟩) (.string ⟨l'.toArray⟩) 25).below (below_alloc _ (.cells #[.string ⟨k.toArray⟩, .string ⟨k'.toArray⟩] 25))).below (below_alloc _ (.cells #[.string ⟨#[]⟩, .string ⟨#[]⟩] 25))
  have X1 := (FBox.new (w.alloc (.cells #[.string ⟨l.toArray⟩, .string ⟨l'.toArray⟩] 25)) (.string ⟨k.toArray⟩) (.string ⟨k'.toArray⟩) 25).below (below_alloc _ (.cells #[.string ⟨#[]⟩, .string ⟨#[]⟩] 25))
  have X2 := FBox.new ((w.alloc (.cells #[.string ⟨l.toArray⟩, .string ⟨l'.toArray⟩] 25)).alloc (.cells #[.string ⟨k.toArray⟩, .string ⟨k'.toArray⟩] 25)) (.string ⟨#[]⟩) (.string ⟨#[]⟩) 25
  have hbW := bto (below_alloc w (.cells #[.string ⟨l.toArray⟩, .string ⟨l'.toArray⟩] 25)) (bto (below_alloc _ (.cells #[.string ⟨k.toArray⟩, .string ⟨k'.toArray⟩] 25)) (below_alloc _ (.cells #[.string ⟨#[]⟩, .string ⟨#[]⟩] 25)))
  rw [World.size_alloc] at X1
  rw [World.size_alloc, World.size_alloc] at X2
  obtain ⟨W, hW⟩ : ∃ W, W = ((w.alloc (.cells #[.string ⟨l.toArray⟩, .string ⟨l'.toArray⟩] 25)).alloc (.cells #[.string ⟨k.toArray⟩, .string ⟨k'.toArray⟩] 25)).alloc (.cells #[.string ⟨#[]⟩, .string ⟨#[]⟩] 25) := ⟨_, rfl⟩
  obtain ⟨b0, hb0⟩ : ∃ b, b = w.heap.size := ⟨_, rfl⟩
  obtain ⟨b1, hb1⟩ : ∃ b, b = w.heap.size + 1 := ⟨_, rfl⟩
  obtain ⟨b2, hb2⟩ : ∃ b, b = w.heap.size + 1 + 1 := ⟨_, rfl⟩
  rw [← hW] at X0 X1 X2 hbW
  rw [← hb0] at X0
  rw [← hb1] at X1
  rw [← hb2] at X2
  have d02 : ¬ b0 = b2 := by omega
  have d12 : ¬ b1 = b2 := by omega
  have d20 : ¬ b2 = b0 := by omega
  have d21 : ¬ b2 = b1 := by omega
  have hwb : w.heap.size ≤ b2 := by omega
  have HW := Lib.hid (And.intro hW (And.intro hb0 (And.intro hb1 hb2)))
  clear hW hb0 hb1 hb2 c1 c2 e hn hd
  go_enter Tryz.func88, Tryz.ntmps88
  go_wp2_with fail
  rw [← HW.out.1, ← HW.out.2.2.2, ← HW.out.2.2.1, ← HW.out.2.1]
  have hbc := bdr W
  have x0 := X0.below hbc; have x1 := X1.below hbc; have x2 := X2.below hbc; have q0 := x0.c0; have q1 := x0.c1; have q2 := x1.c0; have q3 := x1.c1; have c0 := x2.c0; have c1 := x2.c1; have f0 := x2.f0; have f1 := x2.f1
  go_region_held3 (fun w' => w'.cell? ⟨b0, 0, none⟩ = some (.string ⟨l.toArray⟩) ∧ w'.cell? ⟨b0, 1, none⟩ = some (.string ⟨l'.toArray⟩) ∧ w'.cell? ⟨b1, 0, none⟩ = some (.string ⟨k.toArray⟩) ∧ w'.cell? ⟨b1, 1, none⟩ = some (.string ⟨k'.toArray⟩))
    (first | go_keep | (dsimp only; exact ⟨q0, q1, q2, q3⟩))
    (first
      | (go_at_call 151; (with_reducible refine Calls.mono (H1.out.of hG (bto hbW hbc)) ?_); rintro e w1 ⟨rfl, hb1⟩; have hbc := bto hbc hb1; have x0 := X0.below hbc; have x1 := X1.below hbc; have x2 := X2.below hbc; have q0 := x0.c0; have q1 := x0.c1; have q2 := x1.c0; have q3 := x1.c1; have c0 := x2.c0; have c1 := x2.c1; have f0 := x2.f0; have f1 := x2.f1)
      | (go_at_call 96; (with_reducible refine Calls.mono (H2.out.of hG (bto hbW hbc)) ?_); rintro e w2 ⟨rfl, hb2⟩; have hbc := bto hbc hb2; have x0 := X0.below hbc; have x1 := X1.below hbc; have x2 := X2.below hbc; have q0 := x0.c0; have q1 := x0.c1; have q2 := x1.c0; have q3 := x1.c1; have c0 := x2.c0; have c1 := x2.c1; have f0 := x2.f0; have f1 := x2.f1))
  go_wp2
  have hy := x2.set (.string ⟨N.toArray⟩) (.string ⟨D.toArray⟩)
  have z0 := hy.c0
  have z1 := hy.c1
  refine bodyPost_ret (v := .agg #[.string ⟨N.toArray⟩, .string ⟨D.toArray⟩]) (by simp [results, Tryz.results88, go_sem, z0, z1]) rfl ?_
  exact ⟨rfl, below_set2 (bto hbW hbc) hwb _ _⟩
end
end Go.Proofs.YtgnppdkeiihlfaaGreatDoor
/- trancheref02: Parts, Floor, Quo. -/
namespace Go.Proofs.YtgnppdkeiihlfaaGreatDoor
open Go.RowKit Num
theorem quo_raw {a b c e : Int} : Rat.divInt (a * e) (b * c) = Rat.divInt a b / Rat.divInt c e := by
  rw [Rat.div_def, Rat.inv_divInt, Rat.divInt_mul_divInt]
theorem rawN_fN (q : Rat) : rawN (fN q) (fD q) = fN q := by
  unfold rawN fD
  split
  · exact if_neg (by rw [val_nil]; decide)
  · exact if_neg (by rw [val_canon]; omega)
theorem rawD_fD (q : Rat) : rawD (fD q) = canon (q.den : Int) := by
  have hz := q.den_nz
  unfold rawD fD
  split
  · next h => rw [h]; exact if_pos val_nil
  · rw [if_neg (by rw [val_canon]; omega), if_neg (by rw [val_canon]; omega)]
section
variable {l l' k k' : List UInt8} {q : Rat}
set_option maxHeartbeats 1000000 in
set_option maxRecDepth 100000 in
theorem sFloor (hl : l.length ≤ 1900) (hl' : l'.length ≤ 1900) {z : Int} (e : (fv l l').floor = z) : Ret 259 #[(Value.agg #[Value.string ⟨List.toArray l⟩, Value.string ⟨List.toArray l'⟩])] (.string ⟨(canon z).toArray⟩) := fun w hG => by
  have c0 := sRaw (l := l) (l' := l') (by omega) (by omega)
  have n1 := rawN_len l l'
  have n2 := rawD_len l'
  have p1 := rawD_pos l'
  rw [← raw_fv l l', ← floor_divZ _ _ (by omega)] at e
  generalize rawN l l' = A at *
  generalize rawD l' = B at *
  have c1 := qDiv (l := A) (l' := B) (by omega) (by omega) (by omega) e rfl
  have hz : z.natAbs < 10 ^ (A.length + 1) := by
    have h1 := val_lt A
    have h2 := two_lt10 A.length
    have h3 : z = val A / val B := by rw [← e]; unfold divZ; rw [if_pos p1]
    have h4 := Int.natAbs_ediv_le_natAbs (val A) (val B)
    rw [h3]
    rw [Nat.pow_succ]; omega
  have m1 := canon_len_le _ _ hz
  have c2 := qMul (l := canon z) (l' := B) (by omega) (by omega) (z := z * val B) (by rw [val_canon])
  have m2 : (canon (z * val B)).length ≤ 4000 := Nat.le_trans (canon_len_le _ (A.length + 1 + B.length) (by rw [Int.natAbs_mul, Nat.pow_add]; exact Nat.mul_lt_mul'' hz (val_lt B))) (by omega)
  have c3 := qCompare (l := canon (z * val B)) (l' := A) (by omega) (by omega) rfl
  have hc : ¬ 0 < cmpZ (val (canon (z * val B))) (val A) := by
    have h1 : z * val B ≤ val A := by
      rw [← e]; unfold divZ; rw [if_pos p1]; exact Int.ediv_mul_le _ (by omega)
    rw [val_canon]; unfold cmpZ; split
    · decide
    · split
      · omega
      · decide
  have hc' : cmpZ (val (canon (z * val B))) (val A) ≤ 0 := by omega
  have hd := decide_eq_false hc
  generalize cmpZ (val (canon (z * val B))) (val A) = c at *
  generalize canon (z * val B) = M at *
  generalize canon z = Z at *
  generalize canon (modZ (val A) (val B)) = R at *
  have H0 := Lib.hid c0
  have H1 := Lib.hid c1
  have H2 := Lib.hid c2
  have H3 := Lib.hid c3
  have x1 := FBox.new w (.string ⟨l.toArray⟩) (.string ⟨l'.toArray⟩) 25
  have hb := below_alloc w (.cells #[.string ⟨l.toArray⟩, .string ⟨l'.toArray⟩] 25)
  have q0 := x1.c0
  have q1 := x1.c1
  clear c0 c1 c2 c3 e hz m1 m2 n1 n2 p1
  go_enter Tryz.func259, Tryz.ntmps259
  go_wp2_with fail
  ((with_reducible refine (H0.out.of hG hb).mono ?_); rintro e w1 ⟨rfl, hb2⟩)
  have hb := bto hb hb2
  go_wp2_with fail
  ((with_reducible refine (H1.out.of hG hb).mono ?_); rintro e w2 ⟨rfl, hb3⟩)
  have hb := bto hb hb3
  go_wp2_with fail
  ((with_reducible refine (H2.out.of hG hb).mono ?_); rintro e w3 ⟨rfl, hb4⟩)
  have hb := bto hb hb4
  go_wp2_with fail
  ((with_reducible refine (H3.out.of hG hb).mono ?_); rintro e w4 ⟨rfl, hb5⟩)
  have hb := bto hb hb5
  go_wp2
  go_ret
  exact ⟨rfl, hb⟩
end
end Go.Proofs.YtgnppdkeiihlfaaGreatDoor
/- trancheref02: Quo, Check. -/
namespace Go.Proofs.YtgnppdkeiihlfaaGreatDoor
open Go.RowKit Num
section
variable {l l' k k' : List UInt8} {q : Rat}
set_option maxHeartbeats 1000000 in
set_option maxRecDepth 100000 in
theorem sQuo_any (hl : l.length ≤ 900) (hl' : l'.length ≤ 900) (hk : k.length ≤ 900) (hk' : k'.length ≤ 900) {ua va : ByteArray} {ec : Int}
    (hX : Ret 95 #[.string ⟨(canon (val (rawN l l') * val (rawD k'))).toArray⟩, .string ⟨(canon (val (rawD l') * val (rawN k k'))).toArray⟩] (.tuple #[.agg #[.string ua, .string va], .int .i64 ec])) :
    Ret 86 #[(Value.agg #[Value.string ⟨List.toArray l⟩, Value.string ⟨List.toArray l'⟩]), (Value.agg #[Value.string ⟨List.toArray k⟩, Value.string ⟨List.toArray k'⟩])] (.tuple #[.agg #[.string ua, .string va], .int .i64 ec]) := fun w hG => by
  have c0 := sRaw (l := l) (l' := l') (by omega) (by omega)
  have c1 := sRaw (l := k) (l' := k') (by omega) (by omega)
  have n1 := rawN_len l l'
  have n2 := rawD_len l'
  have n3 := rawN_len k k'
  have n4 := rawD_len k'
  generalize rawN l l' = A at *
  generalize rawD l' = B at *
  generalize rawN k k' = C at *
  generalize rawD k' = E at *
  have c2 := qMul (l := A) (l' := E) (by omega) (by omega) rfl
  have c3 := qMul (l := B) (l' := C) (by omega) (by omega) rfl
  generalize canon (val A * val E) = X at *
  generalize canon (val B * val C) = Y at *
  have H0 := Lib.hid c0
  have H1 := Lib.hid c1
  have H2 := Lib.hid c2
  have H3 := Lib.hid c3
  have H4 := Lib.hid hX
  have x0 := ((FBox.new w (.string ⟨l.toArray⟩) (.string ⟨l'.toArray⟩) 25).below (below_alloc _ (.cells #[.string ⟨k.toArray⟩, .string ⟨k'.toArray⟩] 25))).below (below_alloc _ (.cells #[.string ⟨#[]⟩, .string ⟨#[]⟩] 25))
  have x1 := (FBox.new (w.alloc (.cells #[.string ⟨l.toArray⟩, .string ⟨l'.toArray⟩] 25)) (.string ⟨k.toArray⟩) (.string ⟨k'.toArray⟩) 25).below (below_alloc _ (.cells #[.string ⟨#[]⟩, .string ⟨#[]⟩] 25))
  have x2 := FBox.new ((w.alloc (.cells #[.string ⟨l.toArray⟩, .string ⟨l'.toArray⟩] 25)).alloc (.cells #[.string ⟨k.toArray⟩, .string ⟨k'.toArray⟩] 25)) (.string ⟨#[]⟩) (.string ⟨#[]⟩) 25
  simp only [World.size_alloc] at x1 x2
  have hb := bto (bto (below_alloc w (.cells #[.string ⟨l.toArray⟩, .string ⟨l'.toArray⟩] 25)) (below_alloc _ (.cells #[.string ⟨k.toArray⟩, .string ⟨k'.toArray⟩] 25))) (below_alloc _ (.cells #[.string ⟨#[]⟩, .string ⟨#[]⟩] 25))
  have q0 := x0.c0
  have q1 := x0.c1
  have q2 := x1.c0
  have q3 := x1.c1
  clear c0 c1 c2 c3 hX n1 n2 n3 n4
  go_enter Tryz.func86, Tryz.ntmps86
  go_wp2_with fail
  ((with_reducible refine (H0.out.of hG hb).mono ?_); rintro e w1 ⟨rfl, hc⟩)
  have hb := bto hb hc
  have x0 := x0.below hc
  have x1 := x1.below hc
  have x2 := x2.below hc
  have q0 := x0.c0
  have q1 := x0.c1
  have q2 := x1.c0
  have q3 := x1.c1
  clear hc
  go_wp2_with fail
  ((with_reducible refine (H1.out.of hG hb).mono ?_); rintro e w2 ⟨rfl, hc⟩)
  have hb := bto hb hc
  have x0 := x0.below hc
  have x1 := x1.below hc
  have x2 := x2.below hc
  have q0 := x0.c0
  have q1 := x0.c1
  have q2 := x1.c0
  have q3 := x1.c1
  clear hc
  go_wp2_with fail
  ((with_reducible refine (H2.out.of hG hb).mono ?_); rintro e w3 ⟨rfl, hc⟩)
  have hb := bto hb hc
  have x0 := x0.below hc
  have x1 := x1.below hc
  have x2 := x2.below hc
  have q0 := x0.c0
  have q1 := x0.c1
  have q2 := x1.c0
  have q3 := x1.c1
  clear hc
  go_wp2_with fail
  ((with_reducible refine (H3.out.of hG hb).mono ?_); rintro e w4 ⟨rfl, hc⟩)
  have hb := bto hb hc
  have x0 := x0.below hc
  have x1 := x1.below hc
  have x2 := x2.below hc
  have q0 := x0.c0
  have q1 := x0.c1
  have q2 := x1.c0
  have q3 := x1.c1
  clear hc
  go_wp2_with fail
  ((with_reducible refine (H4.out.of hG hb).mono ?_); rintro e w5 ⟨rfl, hc⟩)
  have hb := bto hb hc
  have x0 := x0.below hc
  have x1 := x1.below hc
  have x2 := x2.below hc
  have q0 := x0.c0
  have q1 := x0.c1
  have q2 := x1.c0
  have q3 := x1.c1
  clear hc
  have q4 := x2.c0
  have q5 := x2.c1
  have q90 := x2.f0
  have q91 := x2.f1
  go_wp2
  have hy := x2.set (.string ua) (.string va)
  have d0 := hy.c0
  have d1 := hy.c1
  refine bodyPost_ret (v := .tuple #[.agg #[.string ua, .string va], .int .i64 ec]) (by simp [results, Tryz.results86, go_sem, d0, d1]) rfl ?_
  exact ⟨rfl, below_set2 hb (by omega) _ _⟩
theorem rawN_zero (k k' : List UInt8) : val (rawN k k') = 0 ↔ fv k k' = 0 := by
  have h := rawD_pos k'
  rw [← raw_fv k k']
  constructor
  · intro h0; rw [h0, Rat.zero_divInt]
  · intro h0
    have h1 := Rat.divInt_eq_divInt_iff (n₁ := val (rawN k k')) (n₂ := 0) (d₁ := val (rawD k')) (d₂ := val (rawD k')) (by omega) (by omega)
    rw [Rat.zero_divInt, h0, Int.zero_mul] at h1
    rcases Int.mul_eq_zero.1 (h1.1 rfl) with h3 | h3
    · exact h3
    · omega
theorem sQuo (hl : l.length ≤ 900) (hl' : l'.length ≤ 900) (hk : k.length ≤ 900) (hk' : k'.length ≤ 900) (h0 : fv k k' ≠ 0) (e : fv l l' / fv k k' = q) :
    Ret 86 #[(Value.agg #[Value.string ⟨List.toArray l⟩, Value.string ⟨List.toArray l'⟩]), (Value.agg #[Value.string ⟨List.toArray k⟩, Value.string ⟨List.toArray k'⟩])] (.tuple #[(Value.agg #[Value.string ⟨List.toArray (fN q)⟩, Value.string ⟨List.toArray (fD q)⟩]), .int .i64 0]) := by
  refine sQuo_any hl hl' hk hk' ?_
  have n1 := rawN_len l l'
  have n2 := rawD_len l'
  have n3 := rawN_len k k'
  have n4 := rawD_len k'
  have p1 := rawD_pos l'
  have hz : val (rawN k k') ≠ 0 := fun h => h0 ((rawN_zero k k').1 h)
  rw [← raw_fv l l', ← raw_fv k k'] at e
  generalize rawN l l' = A at *
  generalize rawD l' = B at *
  generalize rawN k k' = C at *
  generalize rawD k' = E at *
  have hne : val B * val C ≠ 0 := Int.mul_ne_zero (by omega) hz
  refine sNew1 ?_ ?_ (by rw [val_canon]; exact hne) ?_
  · exact Nat.le_trans (canon_len_le _ (A.length + E.length) (by rw [Int.natAbs_mul, Nat.pow_add]; exact Nat.mul_lt_mul'' (val_lt A) (val_lt E))) (by omega)
  · exact Nat.le_trans (canon_len_le _ (B.length + C.length) (by rw [Int.natAbs_mul, Nat.pow_add]; exact Nat.mul_lt_mul'' (val_lt B) (val_lt C))) (by omega)
  · unfold fv den1
    rw [val_canon, val_canon, if_neg hne, quo_raw]; exact e
theorem sQuo0 (hl : l.length ≤ 900) (hl' : l'.length ≤ 900) (hk : k.length ≤ 900) (hk' : k'.length ≤ 900) (h0 : fv k k' = 0) :
    Ret 86 #[(Value.agg #[Value.string ⟨List.toArray l⟩, Value.string ⟨List.toArray l'⟩]), (Value.agg #[Value.string ⟨List.toArray k⟩, Value.string ⟨List.toArray k'⟩])] (.tuple #[.agg #[.string ⟨#[]⟩, .string ⟨#[]⟩], .int .i64 10]) := by
  refine sQuo_any hl hl' hk hk' ?_
  have hz := (rawN_zero k k').2 h0
  rw [hz, Int.mul_zero]
  exact sNew0 (by decide) (by decide)
set_option maxHeartbeats 1000000 in
set_option maxRecDepth 100000 in
theorem sCheck (hl : l.length ≤ 3800) (hl' : l'.length ≤ 3800) (e : fv l l' = q) {c : Int} (ec : (if l = fN q ∧ l' = fD q then 0 else 1) = c) : Ret 146 #[(Value.agg #[Value.string ⟨List.toArray l⟩, Value.string ⟨List.toArray l'⟩])] (.int .i64 c) := fun w hG => by
  have cC := sCanonical hl hl' e
  have hb : Below w.heap.size w (w.alloc (.cells #[.string ⟨l.toArray⟩, .string ⟨l'.toArray⟩] 25)) := below_alloc w (.cells #[.string ⟨l.toArray⟩, .string ⟨l'.toArray⟩] 25)
  have x1 := FBox.new w (.string ⟨l.toArray⟩) (.string ⟨l'.toArray⟩) 25
  generalize fN q = N at *
  generalize fD q = D at *
  clear e
  by_cases h3 : l = N
  · have h1 : (l == N) = true := by rw [beq_iff_eq]; exact h3
    by_cases h4 : l' = D
    · have h2 : (l' == D) = true := by rw [beq_iff_eq]; exact h4
      rw [if_pos ⟨h3, h4⟩] at ec
      subst ec
      clear h3 h4
      go_enter Tryz.func146, Tryz.ntmps146
      go_wp2_with fail
      refine wp_region_kept (by kernel_rfl) (by kernel_rfl) ?_
      refine kept_val _ (fun _ => rfl) (fun ρ w hw => by have q0 := (x1.below hw).c0; have q1 := (x1.below hw).c1; go_simp; first | done | with_reducible rfl) ?_
      simp only [Act.put, List.setIfInBounds_toArray, List.set_cons_zero, List.set_cons_succ, Nat.reduceAdd]
      refine kept_val _ (fun _ => rfl) (fun ρ w hw => by have q0 := (x1.below hw).c0; have q1 := (x1.below hw).c1; go_simp; first | done | with_reducible rfl) ?_
      simp only [Act.put, List.setIfInBounds_toArray, List.set_cons_zero, List.set_cons_succ, Nat.reduceAdd]
      refine kept_call _ _ _ (fun _ => rfl) (fun ρ w hw => by go_simp; first | done | with_reducible rfl) (fun w hw => cC.of hG (bto hb hw)) ?_
      simp only [Act.put, List.setIfInBounds_toArray, List.set_cons_zero, List.set_cons_succ, Nat.reduceAdd]
      refine kept_val _ (fun _ => rfl) (fun ρ w hw => by go_simp; first | done | with_reducible rfl) ?_
      simp only [Act.put, List.setIfInBounds_toArray, List.set_cons_zero, List.set_cons_succ, Nat.reduceAdd]
      refine kept_end (fun ρ w2 hF => ?_)
      replace x1 := x1.below hF.below
      replace hb := bto hb hF.below
      clear hF
      go_wp2
      go_ret
      exact ⟨rfl, hb⟩
    · have h2 : (l' == D) = false := by rw [beq_eq_false_iff_ne]; exact h4
      rw [if_neg (fun h => h4 h.2)] at ec
      subst ec
      clear h3 h4
      go_enter Tryz.func146, Tryz.ntmps146
      go_wp2_with fail
      refine wp_region_kept (by kernel_rfl) (by kernel_rfl) ?_
      refine kept_val _ (fun _ => rfl) (fun ρ w hw => by have q0 := (x1.below hw).c0; have q1 := (x1.below hw).c1; go_simp; first | done | with_reducible rfl) ?_
      simp only [Act.put, List.setIfInBounds_toArray, List.set_cons_zero, List.set_cons_succ, Nat.reduceAdd]
      refine kept_val _ (fun _ => rfl) (fun ρ w hw => by have q0 := (x1.below hw).c0; have q1 := (x1.below hw).c1; go_simp; first | done | with_reducible rfl) ?_
      simp only [Act.put, List.setIfInBounds_toArray, List.set_cons_zero, List.set_cons_succ, Nat.reduceAdd]
      refine kept_call _ _ _ (fun _ => rfl) (fun ρ w hw => by go_simp; first | done | with_reducible rfl) (fun w hw => cC.of hG (bto hb hw)) ?_
      simp only [Act.put, List.setIfInBounds_toArray, List.set_cons_zero, List.set_cons_succ, Nat.reduceAdd]
      refine kept_val _ (fun _ => rfl) (fun ρ w hw => by go_simp; first | done | with_reducible rfl) ?_
      simp only [Act.put, List.setIfInBounds_toArray, List.set_cons_zero, List.set_cons_succ, Nat.reduceAdd]
      refine kept_end (fun ρ w2 hF => ?_)
      replace x1 := x1.below hF.below
      replace hb := bto hb hF.below
      clear hF
      go_wp2
      go_ret
      exact ⟨rfl, hb⟩
  · have h1 : (l == N) = false := by rw [beq_eq_false_iff_ne]; exact h3
    rw [if_neg (fun h => h3 h.1)] at ec
    subst ec
    clear h3
    go_enter Tryz.func146, Tryz.ntmps146
    go_wp2_with fail
    refine wp_region_kept (by kernel_rfl) (by kernel_rfl) ?_
    refine kept_val _ (fun _ => rfl) (fun ρ w hw => by have q0 := (x1.below hw).c0; have q1 := (x1.below hw).c1; go_simp; first | done | with_reducible rfl) ?_
    simp only [Act.put, List.setIfInBounds_toArray, List.set_cons_zero, List.set_cons_succ, Nat.reduceAdd]
    refine kept_val _ (fun _ => rfl) (fun ρ w hw => by have q0 := (x1.below hw).c0; have q1 := (x1.below hw).c1; go_simp; first | done | with_reducible rfl) ?_
    simp only [Act.put, List.setIfInBounds_toArray, List.set_cons_zero, List.set_cons_succ, Nat.reduceAdd]
    refine kept_call _ _ _ (fun _ => rfl) (fun ρ w hw => by go_simp; first | done | with_reducible rfl) (fun w hw => cC.of hG (bto hb hw)) ?_
    simp only [Act.put, List.setIfInBounds_toArray, List.set_cons_zero, List.set_cons_succ, Nat.reduceAdd]
    refine kept_val _ (fun _ => rfl) (fun ρ w hw => by go_simp; first | done | with_reducible rfl) ?_
    simp only [Act.put, List.setIfInBounds_toArray, List.set_cons_zero, List.set_cons_succ, Nat.reduceAdd]
    refine kept_end (fun ρ w2 hF => ?_)
    replace x1 := x1.below hF.below
    replace hb := bto hb hF.below
    clear hF
    go_wp2
    go_ret
    exact ⟨rfl, hb⟩
end
end Go.Proofs.YtgnppdkeiihlfaaGreatDoor
/- trancheref02: Print, Power. -/
namespace Go.Proofs.YtgnppdkeiihlfaaGreatDoor
open Go.RowKit Num
section
variable {l l' : List UInt8} {q : Rat}
end
/-! Power. -/
theorem pow_natAbs_lt {a : Int} {K k m : Nat} (h : a.natAbs < 10 ^ K) (hk : k ≤ m) : (a ^ k).natAbs < 10 ^ (K * m + 1) := by
  rw [Int.natAbs_pow]
  have h1 : a.natAbs ^ k ≤ (10 ^ K) ^ k := Nat.pow_le_pow_left (Nat.le_of_lt h) k
  rw [← Nat.pow_mul] at h1
  refine Nat.lt_of_le_of_lt h1 (Nat.pow_lt_pow_right (by decide) ?_)
  have := Nat.mul_le_mul_left K hk
  omega
theorem divInt_pow (a b : Int) (k : Nat) : Rat.divInt (a ^ k) (b ^ k) = (Rat.divInt a b) ^ k := by
  induction k with
  | zero => rw [Int.pow_zero, Int.pow_zero, Rat.pow_zero]; decide +kernel
  | succ k ih => rw [Rat.pow_succ, ← ih, Int.pow_succ, Int.pow_succ, Rat.divInt_mul_divInt]
/-- the contracts that Power's loop calls -/
structure PowC (A B : Int) (m : Nat) (ua va : ByteArray) : Prop where
  mulA : ∀ k, k < m → Ret 149 #[.string ⟨(canon (A ^ k)).toArray⟩, .string ⟨(canon A).toArray⟩] (.string ⟨(canon (A ^ (k + 1))).toArray⟩)
  mulB : ∀ k, k < m → Ret 149 #[.string ⟨(canon (B ^ k)).toArray⟩, .string ⟨(canon B).toArray⟩] (.string ⟨(canon (B ^ (k + 1))).toArray⟩)
  new : Ret 95 #[.string ⟨(canon (A ^ m)).toArray⟩, .string ⟨(canon (B ^ m)).toArray⟩] (.tuple #[.agg #[.string ua, .string va], .int .i64 0])
theorem powC_of {A B : Int} {K m : Nat} (hA : A.natAbs < 10 ^ K) (hB : B.natAbs < 10 ^ K) (hB0 : B ≠ 0) (hK : K * m + K ≤ 3700) {r : Rat} (e : (Rat.divInt A B) ^ m = r) :
    PowC A B m ⟨(fN r).toArray⟩ ⟨(fD r).toArray⟩ := by
  have hlen : ∀ (x : Int), x.natAbs < 10 ^ K → ∀ k, k ≤ m → (canon (x ^ k)).length ≤ 3702 := fun x hx k hk => Nat.le_trans (canon_len_le _ _ (pow_natAbs_lt hx hk)) (by omega)
  have hl1 : ∀ (x : Int), x.natAbs < 10 ^ K → (canon x).length ≤ 3702 := fun x hx => Nat.le_trans (canon_len_le _ _ hx) (by omega)
  refine ⟨fun k hk => ?_, fun k hk => ?_, ?_⟩
  · exact qMul (Nat.le_trans (hlen A hA k (by omega)) (by omega)) (Nat.le_trans (hl1 A hA) (by omega)) (by rw [val_canon, val_canon, Int.pow_succ])
  · exact qMul (Nat.le_trans (hlen B hB k (by omega)) (by omega)) (Nat.le_trans (hl1 B hB) (by omega)) (by rw [val_canon, val_canon, Int.pow_succ])
  · have hne : B ^ m ≠ 0 := Int.pow_ne_zero hB0
    refine sNew1 (Nat.le_trans (hlen A hA m (Nat.le_refl _)) (by omega)) (Nat.le_trans (hlen B hB m (Nat.le_refl _)) (by omega)) (by rw [val_canon]; exact hne) ?_
    unfold fv den1
    rw [val_canon, val_canon, if_neg hne, divInt_pow]; exact e
end Go.Proofs.YtgnppdkeiihlfaaGreatDoor
/- trancheref02: Power. -/
namespace Go.Proofs.YtgnppdkeiihlfaaGreatDoor
open Go.RowKit Num
section
variable {l l' k : List UInt8} {q : Rat}
end
theorem inv_pow (q : Rat) (k : Nat) : (q⁻¹) ^ k = (q ^ k)⁻¹ := by
  induction k with
  | zero => rw [Rat.pow_zero, Rat.pow_zero]; decide +kernel
  | succ k ih => rw [Rat.pow_succ, ih, Rat.pow_succ, Rat.inv_mul_rev, Rat.mul_comm]
end Go.Proofs.YtgnppdkeiihlfaaGreatDoor
/- strings.Cut, laid at this seat's numbers. -/
namespace Go.Proofs
open Go.Shelf
def Tryz.laysM145_ren : Go.Shelf.Ren := ⟨fun | 145 => 262 | 220 => 283 | 219 => 290 | 217 => 295 | 225 => 294 | 224 => 293 | 267 => 296 | 266 => 297 | 314 => 298 | n => n, fun | 9 => 9 | 4 => 4 | 59 => 248 | 3 => 3 | 5 => 5 | 46 => 191 | 146 => 238 | 51 => 237 | n => n, fun | 1 => 3 | n => n⟩
theorem Tryz.laysM145 : Go.Proofs.LaysM.n145 Tryz.prog Tryz.laysM145_ren := {
  mixed := by kernel_rfl
  f145 := Tryz.func262.trans (congrArg some (by kernel_rfl))
  f217 := Tryz.func295.trans (congrArg some (by kernel_rfl))
  f219 := Tryz.func290.trans (congrArg some (by kernel_rfl))
  f220 := Tryz.func283.trans (congrArg some (by kernel_rfl))
  f224 := Tryz.func293.trans (congrArg some (by kernel_rfl))
  f225 := Tryz.func294.trans (congrArg some (by kernel_rfl))
  f266 := Tryz.func297.trans (congrArg some (by kernel_rfl))
  f267 := Tryz.func296.trans (congrArg some (by kernel_rfl))
  f314 := Tryz.func298.trans (congrArg some (by kernel_rfl))
  t3 := Tryz.underlying3
  a3 := Tryz.isAgg3
  z3 := Tryz.sizeOf3
  v3 := Tryz.zeroValue3
  t4 := Tryz.underlying4
  a4 := Tryz.isAgg4
  z4 := Tryz.sizeOf4
  v4 := Tryz.zeroValue4
  t5 := Tryz.underlying5
  a5 := Tryz.isAgg5
  z5 := Tryz.sizeOf5
  v5 := Tryz.zeroValue5
  t9 := Tryz.underlying9
  a9 := Tryz.isAgg9
  z9 := Tryz.sizeOf9
  v9 := Tryz.zeroValue9
  t46 := Tryz.underlying191
  a46 := Tryz.isAgg191
  z46 := Tryz.sizeOf191
  v46 := Tryz.zeroValue191
  t51 := Tryz.underlying237
  a51 := Tryz.isAgg237
  z51 := Tryz.sizeOf237
  v51 := Tryz.zeroValue237
  t59 := Tryz.underlying248
  a59 := Tryz.isAgg248
  z59 := Tryz.sizeOf248
  v59 := Tryz.zeroValue248
  t146 := Tryz.underlying238
  a146 := Tryz.isAgg238
  z146 := Tryz.sizeOf238
  v146 := Tryz.zeroValue238
  g1 := by kernel_rfl
  i3 := by kernel_rfl
  i4 := by kernel_rfl
  i5 := by kernel_rfl
  i9 := by kernel_rfl
  i46 := by kernel_rfl
  i51 := by kernel_rfl
  i59 := by kernel_rfl
  i146 := by kernel_rfl
  m1 := by kernel_rfl
  s1_3 := fun w h => Go.Proofs.cell_of_shapedOpen_int (zero := #[.int .i64 0]) (t := 3) h (of_decide_eq_true (by kernel_rfl)) (by kernel_rfl) rfl (by kernel_rfl) (by kernel_rfl) Tryz.underlying3 }
open Go.RowKit Go.Lib in
theorem Tryz.strings_Cut_shaped (s sep : ByteArray) (w : World) (h : w.ShapedOpen Tryz.prog) (hs : s.size < 4294967281) :
    Calls Tryz.prog 262 #[.string s, .string sep] w fun e w' => e = .returned (.tuple #[.string ⟨(Lib.cut s.data.toList sep.data.toList).1.toArray⟩, .string ⟨(Lib.cut s.data.toList sep.data.toList).2.1.toArray⟩, .bool (Lib.cut s.data.toList sep.data.toList).2.2]) ∧ ∃ n, w' = w.drewN n := Any.strings_Cut_shaped Tryz.laysM145 s sep w h hs
end Go.Proofs
/- Plain: the texts of fractions. -/
namespace Go.Proofs.YtgnppdkeiihlfaaGreatDoor
open Num

theorem index47_none : ∀ a : List UInt8, 47 ∉ a → Lib.index a [47] = -1
  | [], _ => rfl
  | x :: a, h => by
    have h1 : ¬ (47 = x) := fun e => h (by rw [e]; exact List.mem_cons_self)
    have ih := index47_none a (fun e => h (List.mem_cons_of_mem _ e))
    unfold Lib.index
    simp [h1, ih]
theorem index47_at : ∀ a b : List UInt8, 47 ∉ a → Lib.index (a ++ 47 :: b) [47] = (a.length : Int)
  | [], b, _ => by unfold Lib.index; simp
  | x :: a, b, h => by
    have h1 : ¬ (47 = x) := fun e => h (by rw [e]; exact List.mem_cons_self)
    have ih := index47_at a b (fun e => h (List.mem_cons_of_mem _ e))
    rw [List.cons_append]
    unfold Lib.index
    rw [ih]
    have h2 : ((a.length : Int) == -1) = false := by rw [beq_eq_false_iff_ne]; omega
    simp [h1, h2]
theorem cut47_none {a : List UInt8} (h : 47 ∉ a) : Lib.cut a [47] = (a, [], false) := by
  unfold Lib.cut; rw [index47_none a h, if_neg (by decide)]
theorem cut47_at {a : List UInt8} (b : List UInt8) (h : 47 ∉ a) : Lib.cut (a ++ 47 :: b) [47] = (a, b, true) := by
  unfold Lib.cut; rw [index47_at a b h, if_pos (by omega), Int.toNat_natCast]
  simp
theorem cut47_len (s : List UInt8) : (Lib.cut s [47]).1.length ≤ s.length ∧ (Lib.cut s [47]).2.1.length ≤ s.length := by
  unfold Lib.cut; split
  · exact ⟨by rw [List.length_take]; omega, by rw [List.length_drop]; omega⟩
  · exact ⟨Nat.le_refl _, Nat.zero_le _⟩
theorem val_printZ (z : Int) : val (printZ z) = z := by
  unfold printZ; split
  · next h => rw [h]; decide
  · exact val_canon z
theorem printL_printZ (z : Int) : printL (printZ z) = printZ z := by
  have : printL (printZ z) = if val (printZ z) = 0 then [48] else canon (val (printZ z)) := rfl
  rw [this, val_printZ]; rfl
theorem no47_dec (n : Nat) : (47 : UInt8) ∉ dec n := fun h => by
  have := List.all_eq_true.1 (dec_digs n) 47 h
  exact absurd this (by decide)
theorem no47_canon (z : Int) : (47 : UInt8) ∉ canon z := by
  unfold canon; split
  · intro h
    rcases List.mem_cons.1 h with h | h
    · exact absurd h (by decide)
    · exact no47_dec _ h
  · exact no47_dec _
theorem no47_printZ (z : Int) : (47 : UInt8) ∉ printZ z := by
  unfold printZ; split
  · decide
  · exact no47_canon z
theorem parseI_printZ {z : Int} (h : (printZ z).length ≤ 65536) : parseI (printZ z) = (canon z, 0) := by
  unfold parseI; rw [if_neg (by omega), if_pos (printL_printZ z), val_printZ]
/-- the denominator's text -/
def belowOf (s : List UInt8) : List UInt8 := if (Lib.cut s [47]).2.2 then (Lib.cut s [47]).2.1 else [49]
theorem belowOf_t (s : List UInt8) (h : (Lib.cut s [47]).2.2 = true) : belowOf s = (Lib.cut s [47]).2.1 := by unfold belowOf; rw [if_pos h]
theorem belowOf_f (s : List UInt8) (h : (Lib.cut s [47]).2.2 = false) : belowOf s = [49] := by unfold belowOf; rw [if_neg (by rw [h]; decide)]
/-- what Parse finds -/
def parseF (s : List UInt8) : Option Rat :=
  if (parseI (Lib.cut s [47]).1).2 = 0 ∧ (parseI (belowOf s)).2 = 0 ∧ 0 < val (parseI (belowOf s)).1 ∧ printQ (Rat.divInt (val (parseI (Lib.cut s [47]).1).1) (val (parseI (belowOf s)).1)) = s then
    some (Rat.divInt (val (parseI (Lib.cut s [47]).1).1) (val (parseI (belowOf s)).1)) else none
theorem parseF_print {s : List UInt8} {q : Rat} (h : parseF s = some q) : printQ q = s := by
  unfold parseF at h
  split at h
  · next hc => injection h with h; rw [← h]; exact hc.2.2.2
  · cases h
theorem parseF_of {s : List UInt8} {q : Rat} (h1 : (parseI (Lib.cut s [47]).1) = (canon q.num, 0)) (h2 : parseI (belowOf s) = (canon (q.den : Int), 0)) (h3 : printQ q = s) : parseF s = some q := by
  have hz := q.den_nz
  unfold parseF
  rw [h1, h2]
  simp only [val_canon, Rat.num_divInt_den]
  rw [if_pos ⟨trivial, trivial, by omega, h3⟩]
theorem parseF_printQ {q : Rat} (h : (printQ q).length ≤ 65536) : parseF (printQ q) = some q := by
  by_cases hd : q.den = 1
  · have e : printQ q = printZ q.num := by unfold printQ; rw [if_pos hd]
    rw [e] at h
    have hc := cut47_none (no47_printZ q.num)
    refine parseF_of ?_ ?_ rfl
    · rw [e, hc]; exact parseI_printZ h
    · unfold belowOf; rw [e, hc, hd]; exact (by decide : parseI [49] = (canon ((1 : Nat) : Int), 0))
  · have e : printQ q = printZ q.num ++ 47 :: printZ (q.den : Int) := by unfold printQ; rw [if_neg hd]
    have hl : (printZ q.num).length + ((printZ (q.den : Int)).length + 1) ≤ 65536 := by rw [e] at h; simpa using h
    have hc := cut47_at (printZ (q.den : Int)) (no47_printZ q.num)
    refine parseF_of ?_ ?_ rfl
    · rw [e, hc]; exact parseI_printZ (by omega)
    · unfold belowOf; rw [e, hc]; exact parseI_printZ (by omega)
theorem parseI_len (s : List UInt8) : (parseI s).1.length ≤ s.length + 1 := by
  unfold parseI; split
  · simp
  · split
    · exact canon_len_le _ _ (val_lt s)
    · simp
theorem belowOf_len (s : List UInt8) : (belowOf s).length ≤ s.length + 1 := by
  unfold belowOf; split
  · have := (cut47_len s).2; omega
  · simp
theorem printQ_len {q : Rat} {k : Nat} (h : Bd k q) : (printQ q).length ≤ 2 * k + 5 := by
  have h1 : ∀ z : Int, z.natAbs < 10 ^ k → (printZ z).length ≤ k + 2 := fun z hz => by
    unfold printZ; split
    · simp
    · have := canon_len_le z k hz; omega
  have a := h1 q.num h.1
  have b := h1 (q.den : Int) (by simpa using h.2)
  unfold printQ; split
  · omega
  · simp; omega
end Go.Proofs.YtgnppdkeiihlfaaGreatDoor
/- Package fraction: Parse. -/
namespace Go.Proofs.YtgnppdkeiihlfaaGreatDoor
open Go.RowKit Num

theorem rCut (s : List UInt8) (hs : s.length ≤ 1000000) : Ret 262 #[.string ⟨s.toArray⟩, .string ⟨#[47]⟩] (.tuple #[.string ⟨(Lib.cut s [47]).1.toArray⟩, .string ⟨(Lib.cut s [47]).2.1.toArray⟩, .bool (Lib.cut s [47]).2.2]) := fun w hG => by
  obtain ⟨m, hm⟩ := hG.2
  have h := Any.strings_Cut { Tryz.laysM145 with } ⟨s.toArray⟩ ⟨#[47]⟩ m w (by show s.toArray.size < _; simp; omega) hm
  exact h.mono fun e w' ⟨he, n, hw⟩ => by
    subst hw
    exact ⟨he, bdrewN (Below.refl _ _) n⟩
theorem rMade {l l' : List UInt8} (hl : l.length ≤ 1000000) (hl' : l'.length ≤ 1000000) (h0 : val l' ≠ 0) : Ret 102 #[.string ⟨l.toArray⟩, .string ⟨l'.toArray⟩] (Value.agg #[Value.string ⟨List.toArray (fN (Rat.divInt (val l) (val l')))⟩, Value.string ⟨List.toArray (fD (Rat.divInt (val l) (val l')))⟩]) := fun w hG => made_any l l' w hl hl' hG h0

theorem bd_parse (s : List UInt8) (K : Nat) (hK : s.length + 3 ≤ K) (h0 : 0 < val (parseI (belowOf s)).1) : Bd K (Rat.divInt (val (parseI (Lib.cut s [47]).1).1) (val (parseI (belowOf s)).1)) := by
  have h1 := parseI_len (Lib.cut s [47]).1
  have h2 := parseI_len (belowOf s)
  have h3 := (cut47_len s).1
  have h4 := belowOf_len s
  exact bd_divInt (val_lt_of (by omega)) (val_lt_of (by omega)) (by omega)
theorem cut_lens {s : List UInt8} (hs : s.length ≤ 65536) : (Lib.cut s [47]).1.length ≤ 1000000 ∧ (belowOf s).length ≤ 1000000 ∧ (parseI (Lib.cut s [47]).1).1.length ≤ 1000000 ∧ (parseI (belowOf s)).1.length ≤ 1000000 := by
  have h1 := parseI_len (Lib.cut s [47]).1
  have h2 := parseI_len (belowOf s)
  have h3 := (cut47_len s).1
  have h4 := belowOf_len s
  omega
theorem bne_of {a b : Int} (h : (a == b) = true) : (a != b) = false := by simp [bne, h]
theorem bne_of' {a b : Int} (h : (a == b) = false) : (a != b) = true := by simp [bne, h]
theorem bnel_of {a b : List UInt8} (h : (a == b) = true) : (a != b) = false := by simp [bne, h]
theorem bnel_of' {a b : List UInt8} (h : (a == b) = false) : (a != b) = true := by simp [bne, h]
end Go.Proofs.YtgnppdkeiihlfaaGreatDoor
/- trancheref02: Parse. -/
namespace Go.Proofs.YtgnppdkeiihlfaaGreatDoor
open Go.RowKit Num
/-- where the first slash stands, or the end -/
def at47 (s : List UInt8) : Nat := (s.takeWhile (fun c => c.toNat != 47)).length
theorem at47_le (s : List UInt8) : at47 s ≤ s.length := (List.takeWhile_sublist _).length_le
theorem at47_drop {s : List UInt8} {k : Nat} {x : UInt8} (h : s[k]? = some x) : at47 (s.drop k) = if (x.toNat : Int) = 47 then 0 else 1 + at47 (s.drop (k + 1)) := by
  have hk := (List.getElem?_eq_some_iff.1 h).1
  have hx := (List.getElem?_eq_some_iff.1 h).2
  rw [List.drop_eq_getElem_cons hk, hx]
  unfold at47
  by_cases h1 : x.toNat = 47
  · rw [if_pos (by omega), List.takeWhile_cons_of_neg (by simp [h1])]; rfl
  · rw [if_neg (by omega), List.takeWhile_cons_of_pos (by simpa using h1), List.length_cons, Nat.add_comm]
theorem at47_cut (s : List UInt8) : Lib.cut s [47] = (s.take (at47 s), if at47 s < s.length then s.drop (at47 s + 1) else [], decide (at47 s < s.length)) := by
  have e := List.takeWhile_append_dropWhile (p := fun c : UInt8 => c.toNat != 47) (l := s)
  have hn : (47 : UInt8) ∉ s.takeWhile (fun c => c.toNat != 47) := fun h => by
    have h0 := List.all_takeWhile (p := fun c : UInt8 => c.toNat != 47) (l := s)
    have h1 := List.all_eq_true.1 h0 47 h
    exact absurd h1 (by decide)
  unfold at47
  generalize ha : s.takeWhile (fun c => c.toNat != 47) = a at *
  cases hd : s.dropWhile (fun c => c.toNat != 47) with
  | nil =>
    rw [hd, List.append_nil] at e
    subst e
    rw [cut47_none hn, if_neg (by omega), List.take_length, decide_eq_false (by omega)]
  | cons x b =>
    have hx : x = 47 := by
      have h1 := List.head_dropWhile_not (p := fun c : UInt8 => c.toNat != 47) (l := s) (by rw [hd]; simp)
      simp only [hd, List.head_cons] at h1
      exact UInt8.toNat_inj.1 (by simpa using h1)
    subst hx
    rw [hd] at e
    rw [← e, cut47_at b hn, if_pos (by simp), decide_eq_true (by simp)]
    simp
theorem printQ_below {s : List UInt8} {q : Rat} (h : printQ q = s) (hs : s.length ≤ 65536) : val (parseI (belowOf s)).1 = (q.den : Int) := by
  subst h
  by_cases hd : q.den = 1
  · have e : printQ q = printZ q.num := by unfold printQ; rw [if_pos hd]
    have hc := cut47_none (no47_printZ q.num)
    unfold belowOf; rw [e, hc, hd]; exact (by decide : val (parseI [49]).1 = ((1 : Nat) : Int))
  · have e : printQ q = printZ q.num ++ 47 :: printZ (q.den : Int) := by unfold printQ; rw [if_neg hd]
    have hl : (printZ q.num).length + ((printZ (q.den : Int)).length + 1) ≤ 65536 := by rw [e] at hs; simpa using hs
    have hc := cut47_at (printZ (q.den : Int)) (no47_printZ q.num)
    unfold belowOf; rw [e, hc]
    show val (parseI (printZ (q.den : Int))).1 = _
    rw [parseI_printZ (by omega), val_canon]
/-- what the reference's Parse returns -/
def parseV (e1 e2 e3 : Int) (u v : Value) (same : Bool) : Value :=
  if e2 = 0 ∧ e1 = 0 ∧ e3 = 0 ∧ same = true then .tuple #[.agg #[u, v], .int .i64 0] else .tuple #[.agg #[.string ⟨#[]⟩, .string ⟨#[]⟩], .int .i64 3]
end Go.Proofs.YtgnppdkeiihlfaaGreatDoor
/- Both packages at once: New, Quo, Parse. -/
namespace Go.Proofs.YtgnppdkeiihlfaaGreatDoor
open Go.RowKit Num
theorem divInt_one (z : Int) : Rat.divInt z 1 = (z : Rat) := Rat.num_divInt_den (z : Rat)
section
variable {l l' k k' : List UInt8}
theorem new_both (hl : l.length ≤ 3800) (hl' : l'.length ≤ 3800) : ∃ (N D : List UInt8) (c : Int), Ret 94 #[.string ⟨l.toArray⟩, .string ⟨l'.toArray⟩] (.tuple #[.agg #[.string ⟨N.toArray⟩, .string ⟨D.toArray⟩], .int .i64 c]) ∧
    Ret 95 #[.string ⟨l.toArray⟩, .string ⟨l'.toArray⟩] (.tuple #[.agg #[.string ⟨N.toArray⟩, .string ⟨D.toArray⟩], .int .i64 c]) := by
  by_cases h0 : val l' = 0
  · exact ⟨[], [], 10, rNew0 (by omega) h0, sNew0 (by omega) h0⟩
  · refine ⟨_, _, 0, rNew (by omega) (by omega) h0 rfl, sNew1 hl hl' h0 ?_⟩
    unfold fv den1; rw [if_neg h0]
theorem quo_both (hl : l.length ≤ 900) (hl' : l'.length ≤ 900) (hk : k.length ≤ 900) (hk' : k'.length ≤ 900) : ∃ (N D : List UInt8) (c : Int), Ret 73 #[(Value.agg #[Value.string ⟨List.toArray l⟩, Value.string ⟨List.toArray l'⟩]), (Value.agg #[Value.string ⟨List.toArray k⟩, Value.string ⟨List.toArray k'⟩])] (.tuple #[.agg #[.string ⟨N.toArray⟩, .string ⟨D.toArray⟩], .int .i64 c]) ∧
    Ret 86 #[(Value.agg #[Value.string ⟨List.toArray l⟩, Value.string ⟨List.toArray l'⟩]), (Value.agg #[Value.string ⟨List.toArray k⟩, Value.string ⟨List.toArray k'⟩])] (.tuple #[.agg #[.string ⟨N.toArray⟩, .string ⟨D.toArray⟩], .int .i64 c]) := by
  have iF : IsQ l l' (fv l l') := isq_raw hl hl' (by decide)
  have iG : IsQ k k' (fv k k') := isq_raw hk hk' (by decide)
  by_cases h0 : fv k k' = 0
  · exact ⟨[], [], 10, rQuo0 iG h0, sQuo0 hl hl' hk hk' h0⟩
  · exact ⟨_, _, 0, rQuo iF iG h0 rfl, sQuo hl hl' hk hk' h0 rfl⟩
end
end Go.Proofs.YtgnppdkeiihlfaaGreatDoor
namespace Go.Proofs.YtgnppdkeiihlfaaGreatDoor
open Go.RowKit Num
/-- a call that returns v and keeps what lay, in every memory that keeps what lay in w -/
def RetB (w : World) (f : Nat) (args : Array Value) (v : Value) : Prop := ∀ w' : World, Below w.heap.size w w' → Calls Tryz.prog f args w' fun e w'' => e = .returned v ∧ Below w'.heap.size w' w''
theorem RetB.of {w w' : World} {f : Nat} {args : Array Value} {v : Value} (h : RetB w f args v) (_ : Glob w) (hb : Below w.heap.size w w') : Calls Tryz.prog f args w' fun e w'' => e = .returned v ∧ Below w'.heap.size w' w'' := h w' hb
theorem Ret.b {w : World} {f : Nat} {args : Array Value} {v : Value} (h : Ret f args v) (hG : Glob w) : RetB w f args v := fun _ hb => h.of hG hb
theorem RetB.below {w w1 : World} {f : Nat} {args : Array Value} {v : Value} (h : RetB w f args v) (hb : Below w.heap.size w w1) : RetB w1 f args v := fun _ hb' => h _ (bto hb hb')
/-- a payment -/
structure Pay where
  per : Int
  amt : List UInt8
/-- a slice of payments -/
def PayAt (w : World) (A : Option Addr) (ps : List Pay) : Prop := ∀ (i : Nat) (t : Pay), ps[i]? = some t → ∃ b o, A = some ⟨b, o, none⟩ ∧ b < w.heap.size ∧ w.cell? ⟨b, o + i * 2, none⟩ = some (.int .i64 t.per) ∧ w.cell? ⟨b, o + i * 2 + 1, none⟩ = some (.string ⟨t.amt.toArray⟩)
theorem PayAt.below {w w' : World} {A : Option Addr} {ps : List Pay} (h : PayAt w A ps) (hb : Below w.heap.size w w') : PayAt w' A ps := fun i t ht => by
  obtain ⟨b, o, rfl, h1, h2, h3⟩ := h i t ht
  exact ⟨b, o, rfl, Nat.lt_of_lt_of_le h1 hb.size, (hb.cell (p := ⟨b, o + i * 2, none⟩) h1).trans h2, (hb.cell (p := ⟨b, o + i * 2 + 1, none⟩) h1).trans h3⟩
def pzs (ps : List Pay) : List PZ := ps.map (fun p => (p.per, val p.amt))
def lessO : Option Int → Int → Bool
  | none, _ => false
  | some q, x => decide (x < q)
/-- what Check returns -/
def payL : Option Int → List Pay → Int
  | _, [] => 0
  | o, p :: r => if p.per < 0 ∨ 400 < p.per then 2 else if lessO o p.per = true then 8 else if ¬ p.amt = canon (val p.amt) then 1 else payL (some p.per) r
def payE (ps : List Pay) : Int := if ps.length = 0 then 11 else if 64 < ps.length then 4 else payL none ps
def prevO (ps : List Pay) : Nat → Option Int
  | 0 => none
  | k + 1 => (ps[k]?).map (·.per)
theorem payL_step {ps : List Pay} {k : Nat} {p : Pay} (h : ps[k]? = some p) : payL (prevO ps k) (ps.drop k) = if p.per < 0 ∨ 400 < p.per then 2 else if lessO (prevO ps k) p.per = true then 8 else if ¬ p.amt = canon (val p.amt) then 1 else payL (prevO ps (k + 1)) (ps.drop (k + 1)) := by
  obtain ⟨hk, rfl⟩ := List.getElem?_eq_some_iff.1 h
  have e : prevO ps (k + 1) = some ps[k].per := by show (ps[k]?).map (·.per) = _; rw [h]; rfl
  rw [List.drop_eq_getElem_cons hk, e]; rfl
theorem payL_ok : ∀ (ps : List Pay) (o : Option Int) (a : Int), payL o ps = 0 → (o = none → a = 0) → (∀ q, o = some q → a = q) → UpL a (pzs ps) ∧ ∀ p ∈ ps, 0 ≤ p.per ∧ p.per ≤ 400 ∧ p.amt = canon (val p.amt)
  | [], _, _, _, _, _ => ⟨trivial, fun _ h => by cases h⟩
  | p :: r, o, a, h, h1, h2 => by
    unfold payL at h
    by_cases g1 : p.per < 0 ∨ 400 < p.per
    · rw [if_pos g1] at h; cases h
    rw [if_neg g1] at h
    by_cases g2 : lessO o p.per = true
    · rw [if_pos g2] at h; cases h
    rw [if_neg g2] at h
    by_cases g3 : p.amt = canon (val p.amt)
    rotate_left
    · rw [if_pos g3] at h; cases h
    rw [if_neg (fun h => h g3)] at h
    obtain ⟨i1, i2⟩ := payL_ok r (some p.per) p.per h (fun h => by cases h) (fun q hq => by injection hq)
    refine ⟨⟨?_, i1⟩, fun q hq => ?_⟩
    · show a ≤ p.per
      cases o with
      | none => rw [h1 rfl]; omega
      | some q => rw [h2 q rfl]; simp [lessO] at g2; omega
    · rcases List.mem_cons.1 hq with rfl | hq
      · exact ⟨by omega, by omega, g3⟩
      · exact i2 q hq
theorem payE_ok {ps : List Pay} (h : payE ps = 0) : ps.length ≠ 0 ∧ ps.length ≤ 64 ∧ UpL 0 (pzs ps) ∧ ∀ p ∈ ps, 0 ≤ p.per ∧ p.per ≤ 400 ∧ p.amt = canon (val p.amt) := by
  unfold payE at h
  split at h
  · cases h
  split at h
  · cases h
  obtain ⟨i1, i2⟩ := payL_ok ps none 0 h (fun _ => rfl) (fun q hq => by cases hq)
  exact ⟨by assumption, by omega, i1, i2⟩
theorem hv_bd {x : Rat} {K M : Nat} (hx : Bd K x) (hM : 1 ≤ M) (E : Int) : ∀ (l : List PZ) (t : Rat) (a : Int) (T : Nat), UpL a l → Bd T t → (∀ p ∈ l, p.1 ≤ E ∧ p.2.natAbs < 10 ^ M) → Bd (T + K * (E - a).toNat + l.length * (M + 3)) (hv x t a l)
  | [], t, a, T, _, ht, _ => bd_mono ht (by omega)
  | p :: r, t, a, T, hu, ht, hp => by
    obtain ⟨p1, p2⟩ := hp p (List.mem_cons_self ..)
    have b1 := bd_pow hx (p.1 - a).toNat
    have b2 := bd_add (bd_mul ht b1) (bd_int p2 hM)
    have := hv_bd hx hM E r _ p.1 _ hu.2 b2 (fun q hq => hp q (List.mem_cons_of_mem _ hq))
    refine bd_mono this ?_
    have h1 := hu.1
    have e : (E - a).toNat = (E - p.1).toNat + (p.1 - a).toNat := by omega
    rw [e, Nat.mul_add K, List.length_cons, Nat.add_one_mul]
    generalize r.length * (M + 3) = X
    generalize K * (E - p.1).toNat = Y
    generalize K * (p.1 - a).toNat = Z
    omega
end Go.Proofs.YtgnppdkeiihlfaaGreatDoor
namespace Go.Proofs.YtgnppdkeiihlfaaGreatDoor
open Go.RowKit Num
section
variable {l l' : List UInt8}
theorem qCheck (hl : l.length ≤ 1000000) {c : Int} (e : (if l = canon (val l) then 0 else 1) = c) : Ret 52 #[.string ⟨l.toArray⟩] (.int .i64 c) := fun w hG => by
  have c1 := qCanonical (l := l) hl rfl
  have hb := Below.refl w.heap.size w
  obtain ⟨X, hX⟩ : ∃ X, X = canon (val l) := ⟨_, rfl⟩
  rw [← hX] at c1 e
  have H1 := Lib.hid c1
  clear c1 hX
  by_cases h : l = X
  · rw [if_pos h] at e
    subst e
    subst h
    go_enter Tryz.func52, Tryz.ntmps52
    go_wp2_with fail
    ((with_reducible refine (H1.out.of hG hb).mono ?_); rintro e w2 ⟨rfl, hb2⟩)
    go_wp2
    go_ret
    exact ⟨rfl, bto hb hb2⟩
  · rw [if_neg h] at e
    subst e
    have e1 : (X == l) = false := by rw [beq_eq_false_iff_ne]; exact fun h1 => h h1.symm
    go_enter Tryz.func52, Tryz.ntmps52
    go_wp2_with fail
    ((with_reducible refine (H1.out.of hG hb).mono ?_); rintro e w2 ⟨rfl, hb2⟩)
    go_wp2
    go_ret
    exact ⟨rfl, bto hb hb2⟩
theorem qGreat {b : Bool} (e : decide (60 < l.length) = b) : Ret 54 #[.string ⟨l.toArray⟩] (.bool b) := fun w _ => by
  subst e
  have HV : Hid (decide ((60 : Int) < (l.length : Int)) = decide (60 < l.length)) := by show _ = _; rw [decide_eq_decide]; omega
  go_enter Tryz.func54, Tryz.ntmps54
  go_wp2
  go_ret
  exact ⟨retb HV.out, Below.refl _ _⟩
theorem qSign (hl : l.length ≤ 1000000) {c : Int} (e : cmpZ (val l) 0 = c) : Ret 53 #[.string ⟨l.toArray⟩] (.int .i64 c) := fun w hG => by
  have c1 := qCompare (l := l) (l' := []) hl (by decide) (c := c) (by rw [val_nil]; exact e)
  have hb := Below.refl w.heap.size w
  have H1 := Lib.hid c1
  clear c1 e
  go_enter Tryz.func53, Tryz.ntmps53
  go_wp2_with fail
  ((with_reducible refine (H1.out.of hG hb).mono ?_); rintro e w2 ⟨rfl, hb2⟩)
  go_wp2
  go_ret
  exact ⟨rfl, bto hb hb2⟩
theorem sSign (hl : l.length ≤ 900) (hl' : l'.length ≤ 900) {c : Int} (e : cmpQ (fv l l') 0 = c) : Ret 162 #[(Value.agg #[Value.string ⟨List.toArray l⟩, Value.string ⟨List.toArray l'⟩])] (.int .i64 c) := fun w hG => by
  have c1 := sCompare (l := l) (l' := l') (k := []) (k' := []) hl hl' (by decide) (by decide) (c := c) (by rw [show fv [] [] = 0 by decide +kernel]; exact e)
  have H1 := Lib.hid c1
  have x1 := FBox.new w (.string ⟨l.toArray⟩) (.string ⟨l'.toArray⟩) 25
  have hb := below_alloc w (.cells #[.string ⟨l.toArray⟩, .string ⟨l'.toArray⟩] 25)
  have q0 := x1.c0
  have q1 := x1.c1
  clear c1 e
  go_enter Tryz.func162, Tryz.ntmps162
  go_wp2_with fail
  ((with_reducible refine (H1.out.of hG hb).mono ?_); rintro e w2 ⟨rfl, hb2⟩)
  have hb := bto hb hb2
  go_wp2
  go_ret
  exact ⟨rfl, hb⟩
end
end Go.Proofs.YtgnppdkeiihlfaaGreatDoor
namespace Go.Proofs
open Go.Shelf
def Tryz.laysM171_ren : Go.Shelf.Ren := ⟨fun | 171 => 222 | 243 => 264 | 246 => 284 | 283 => 247 | 284 => 248 | 285 => 249 | 286 => 250 | 129 => 275 | 317 => 274 | 318 => 276 | 319 => 277 | 320 => 278 | 337 => 288 | 338 => 289 | n => n, fun | 3 => 3 | 9 => 9 | 2 => 2 | 4 => 4 | 171 => 232 | 0 => 0 | 53 => 151 | 37 => 159 | 5 => 5 | 173 => 235 | 212 => 262 | 51 => 237 | 20 => 20 | 213 => 263 | 46 => 191 | 232 => 282 | 233 => 283 | n => n, fun | 17 => 2 | 18 => 6 | 19 => 7 | n => n⟩
theorem Tryz.laysM171 : Go.Proofs.LaysM.n171 Tryz.prog Tryz.laysM171_ren := {
  mixed := by kernel_rfl
  f129 := Tryz.func275.trans (congrArg some (by kernel_rfl))
  f171 := Tryz.func222.trans (congrArg some (by kernel_rfl))
  f243 := Tryz.func264.trans (congrArg some (by kernel_rfl))
  f246 := Tryz.func284.trans (congrArg some (by kernel_rfl))
  f283 := Tryz.func247.trans (congrArg some (by kernel_rfl))
  f284 := Tryz.func248.trans (congrArg some (by kernel_rfl))
  f285 := Tryz.func249.trans (congrArg some (by kernel_rfl))
  f286 := Tryz.func250.trans (congrArg some (by kernel_rfl))
  f317 := Tryz.func274.trans (congrArg some (by kernel_rfl))
  f318 := Tryz.func276.trans (congrArg some (by kernel_rfl))
  f319 := Tryz.func277.trans (congrArg some (by kernel_rfl))
  f320 := Tryz.func278.trans (congrArg some (by kernel_rfl))
  f337 := Tryz.func288.trans (congrArg some (by kernel_rfl))
  f338 := Tryz.func289.trans (congrArg some (by kernel_rfl))
  t0 := Tryz.underlying0
  a0 := Tryz.isAgg0
  z0 := Tryz.sizeOf0
  v0 := Tryz.zeroValue0
  t2 := Tryz.underlying2
  a2 := Tryz.isAgg2
  z2 := Tryz.sizeOf2
  v2 := Tryz.zeroValue2
  t3 := Tryz.underlying3
  a3 := Tryz.isAgg3
  z3 := Tryz.sizeOf3
  v3 := Tryz.zeroValue3
  t4 := Tryz.underlying4
  a4 := Tryz.isAgg4
  z4 := Tryz.sizeOf4
  v4 := Tryz.zeroValue4
  t5 := Tryz.underlying5
  a5 := Tryz.isAgg5
  z5 := Tryz.sizeOf5
  v5 := Tryz.zeroValue5
  t9 := Tryz.underlying9
  a9 := Tryz.isAgg9
  z9 := Tryz.sizeOf9
  v9 := Tryz.zeroValue9
  t20 := Tryz.underlying20
  a20 := Tryz.isAgg20
  z20 := Tryz.sizeOf20
  v20 := Tryz.zeroValue20
  t37 := Tryz.underlying159
  a37 := Tryz.isAgg159
  z37 := Tryz.sizeOf159
  v37 := Tryz.zeroValue159
  t46 := Tryz.underlying191
  a46 := Tryz.isAgg191
  z46 := Tryz.sizeOf191
  v46 := Tryz.zeroValue191
  t51 := Tryz.underlying237
  a51 := Tryz.isAgg237
  z51 := Tryz.sizeOf237
  v51 := Tryz.zeroValue237
  t53 := Tryz.underlying151
  a53 := Tryz.isAgg151
  z53 := Tryz.sizeOf151
  v53 := Tryz.zeroValue151
  t171 := Tryz.underlying232
  a171 := Tryz.isAgg232
  z171 := Tryz.sizeOf232
  v171 := Tryz.zeroValue232
  t173 := Tryz.underlying235
  a173 := Tryz.isAgg235
  z173 := Tryz.sizeOf235
  v173 := Tryz.zeroValue235
  t212 := Tryz.underlying262
  a212 := Tryz.isAgg262
  z212 := Tryz.sizeOf262
  v212 := Tryz.zeroValue262
  t213 := Tryz.underlying263
  a213 := Tryz.isAgg263
  z213 := Tryz.sizeOf263
  t232 := Tryz.underlying282
  a232 := Tryz.isAgg282
  z232 := Tryz.sizeOf282
  v232 := Tryz.zeroValue282
  t233 := Tryz.underlying283
  a233 := Tryz.isAgg283
  z233 := Tryz.sizeOf283
  v233 := Tryz.zeroValue283
  g17 := by kernel_rfl
  g18 := by kernel_rfl
  g19 := by kernel_rfl
  i0 := by kernel_rfl
  i2 := by kernel_rfl
  i3 := by kernel_rfl
  i4 := by kernel_rfl
  i5 := by kernel_rfl
  i9 := by kernel_rfl
  i20 := by kernel_rfl
  i37 := by kernel_rfl
  i46 := by kernel_rfl
  i51 := by kernel_rfl
  i53 := by kernel_rfl
  i171 := by kernel_rfl
  i173 := by kernel_rfl
  i212 := by kernel_rfl
  i232 := by kernel_rfl
  i233 := by kernel_rfl
  m17 := by kernel_rfl
  m18 := by kernel_rfl
  m19 := by kernel_rfl }
open Go.RowKit Go.Sort Go.Lib in
theorem Tryz.strconv_Itoa (n : Int) (h0 : -9223372036854775808 ≤ n) (h1 : n ≤ 9223372036854775807) (w : World) (htab : Lib.TabIs Tryz.prog w "internal/strconv.uint64pow10" .u64 Lib.pow10Tab) :
    Calls Tryz.prog 222 #[.int .i64 n] w fun e w' => e = .returned (.string ⟨(Lib.itoa n).toArray⟩) ∧ ∃ k os, w' = grow (w.drewN k) os := Any.strconv_Itoa Tryz.laysM171 n h0 h1 w htab
end Go.Proofs
namespace Go.Proofs.YtgnppdkeiihlfaaGreatDoor
open Go.RowKit Num
theorem itoa_print (n : Int) : Lib.itoa n = printZ n := by
  unfold Lib.itoa printZ
  by_cases h : n < 0
  · rw [if_pos h, if_neg (by omega), ← fmt_dec]
    unfold canon fmt; rw [if_pos h, if_neg (by omega)]
  · rw [if_neg h, ← fmt_dec]
    by_cases h0 : n = 0
    · rw [if_pos h0, h0]; rfl
    · rw [if_neg h0]
      unfold canon fmt
      rw [if_neg h, if_neg (by omega), show n.toNat = n.natAbs by omega]
theorem rItoa (n : Int) (h0 : -9223372036854775808 ≤ n) (h1 : n ≤ 9223372036854775807) : Ret 222 #[.int .i64 n] (.string ⟨(printZ n).toArray⟩) := fun w hG => by
  refine (Tryz.strconv_Itoa n h0 h1 w hG.1).mono ?_
  rintro e w' ⟨rfl, k, os, rfl⟩
  exact ⟨by rw [itoa_print], Lib.below_grow _ _ (Nat.le_refl _) _ _⟩
theorem printZ_len64 (n : Int) (h0 : -9223372036854775808 ≤ n) (h1 : n ≤ 9223372036854775807) : (printZ n).length ≤ 25 := by
  unfold printZ; split
  · simp
  · exact Nat.le_trans (canon_len_le n 20 (by omega)) (by omega)
set_option maxHeartbeats 1000000 in
theorem riOf (n : Int) (h0 : -9223372036854775808 ≤ n) (h1 : n ≤ 9223372036854775807) : Ret 174 #[.int .i64 n] (.string ⟨(canon n).toArray⟩) := fun w hG => by
  have hl := printZ_len64 n h0 h1
  have C1 := Lib.hid (rItoa n h0 h1)
  have c2 : Ret 65 #[.string ⟨(printZ n).toArray⟩] (.string ⟨(canon n).toArray⟩) := fun w _ => by
    have := canonical_any (printZ n) w (by omega)
    rwa [val_printZ] at this
  have C2 := Lib.hid c2
  have hb := Below.refl w.heap.size w
  clear c2 hl
  generalize printZ n = P at *
  go_enter Tryz.func174, Tryz.ntmps174
  go_wp2_with fail
  ((with_reducible refine (C1.out.of hG hb).mono ?_); rintro e w2 ⟨rfl, hb2⟩)
  replace hb := bto hb hb2
  go_wp2_with fail
  ((with_reducible refine (C2.out.of hG hb).mono ?_); rintro e w3 ⟨rfl, hb3⟩)
  go_wp2
  go_ret
  exact ⟨rfl, bto hb hb3⟩
end Go.Proofs.YtgnppdkeiihlfaaGreatDoor
