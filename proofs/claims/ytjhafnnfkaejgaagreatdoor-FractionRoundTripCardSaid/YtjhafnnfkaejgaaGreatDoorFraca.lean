/- Package fraction: reduced, made, parts, Parts, New, Of, Neg, Check. -/
import Derived.Test.YtjhafnnfkaejgaaGreatDoorRat
namespace Go.Proofs.YtjhafnnfkaejgaaGreatDoor
open Go.RowKit Num

theorem cmp0 (d : Int) : cmpZ d (val []) = if d < 0 then -1 else if 0 < d then 1 else 0 := by rw [val_nil]; rfl
theorem len_canon_gcd (a b : Int) (hb : b ≠ 0) (k : Nat) (h : b.natAbs < 10 ^ k) : (canon (Int.gcd a b : Int)).length ≤ k + 1 :=
  canon_len_le _ _ (by
    rw [Int.natAbs_natCast]
    exact Nat.lt_of_le_of_lt (Nat.le_of_dvd (by omega) (Int.gcd_dvd_natAbs_right a b)) h)

set_option maxHeartbeats 1000000 in
set_option maxRecDepth 100000 in
theorem reduced_any (l l' : List UInt8) (w : World) (hl : l.length ≤ 1000000) (hl' : l'.length ≤ 1000000) (hG : Glob w) (h0 : val l' ≠ 0) :
    Calls Tryz.prog 47 #[.string ⟨l.toArray⟩, .string ⟨l'.toArray⟩] w fun e w' => e = .returned (.tuple #[.string ⟨(canon (Rat.divInt (val l) (val l')).num).toArray⟩, .string ⟨(canon ((Rat.divInt (val l) (val l')).den : Int)).toArray⟩]) ∧ Below w.heap.size w w' := by
  have hv := val_lt l'
  have hc := cmp0 (val l')
  by_cases hneg : val l' < 0
  · have hr := red_neg (val l) (val l') hneg
    have hg0 := red_g (-val l) (-val l') (by omega)
    have hgl : (canon (Int.gcd (-val l) (-val l') : Int)).length ≤ 100000000 := Nat.le_trans (len_canon_gcd _ _ (by omega) l'.length (by rw [Int.natAbs_neg]; exact hv)) (by omega)
    have h1 : (canon (-val l)).length ≤ 100000000 := Nat.le_trans (canon_len_le _ l.length (by rw [Int.natAbs_neg]; exact val_lt l)) (by omega)
    have h2 : (canon (-val l')).length ≤ 100000000 := Nat.le_trans (canon_len_le _ l'.length (by rw [Int.natAbs_neg]; exact hv)) (by omega)
    rw [if_pos hneg] at hc
    rw [← hr.1, ← hr.2]
    obtain ⟨g, hg⟩ : ∃ g : Nat, g = Int.gcd (-val l) (-val l') := ⟨_, rfl⟩
    rw [← hg] at hg0 hgl ⊢
    have HGD := Lib.hid hg
    clear hg
    have HC := Lib.hid hc
    have HG0 := Lib.hid hg0
    clear hr hc hg0 hneg hv h0
    go_enter Tryz.func47, Tryz.ntmps47
    go_wp2_with fail
    ((with_reducible refine (icompare_any l' [] _ (Nat.le_trans hl' (by decide)) (by decide)).mono ?_); rintro e w1 ⟨rfl, hb1⟩)
    rw [HC.out]
    go_wp2_with fail
    ((with_reducible refine (neg_any l _ (Nat.le_trans hl (by decide)) (by exact hG.below hb1)).mono ?_); rintro e w2 ⟨rfl, hb2⟩)
    have hb2 := bto hb1 hb2
    go_wp2_with fail
    ((with_reducible refine (neg_any l' _ (Nat.le_trans hl' (by decide)) (by exact hG.below hb2)).mono ?_); rintro e w3 ⟨rfl, hb3⟩)
    have hb3 := bto hb2 hb3
    go_wp2_with fail
    ((with_reducible refine (gcd_any _ _ _ h1 h2 (by exact hG.below hb3)).mono ?_); rintro e w4 ⟨rfl, hb4⟩)
    have hb4 := bto hb3 hb4
    rw [val_canon, val_canon, ← HGD.out]
    go_wp2_with fail
    ((with_reducible refine (idiv_any _ _ _ h1 hgl (by exact hG.below hb4) (by rw [val_canon]; have := HG0.out; omega)).mono ?_); rintro e w5 ⟨rfl, hb5⟩)
    have hb5 := bto hb4 hb5
    rw [val_canon, val_canon]
    go_wp2_with fail
    ((with_reducible refine (idiv_any _ _ _ h2 hgl (by exact hG.below hb5) (by rw [val_canon]; have := HG0.out; omega)).mono ?_); rintro e w6 ⟨rfl, hb6⟩)
    have hb6 := bto hb5 hb6
    rw [val_canon, val_canon]
    go_wp2
    go_ret2
    exact ⟨rfl, hb6⟩
  · have hp : 0 < val l' := by omega
    have hr := red_pos (val l) (val l') hp
    have hg0 := red_g (val l) (val l') (by omega)
    have hgl : (canon (Int.gcd (val l) (val l') : Int)).length ≤ 100000000 := Nat.le_trans (len_canon_gcd _ _ (by omega) l'.length hv) (by omega)
    rw [if_neg hneg, if_pos hp] at hc
    rw [← hr.1, ← hr.2]
    have HC := Lib.hid hc
    have HG0 := Lib.hid hg0
    clear hr hc hg0 hneg hv h0 hp
    go_enter Tryz.func47, Tryz.ntmps47
    go_wp2_with fail
    ((with_reducible refine (icompare_any l' [] _ (Nat.le_trans hl' (by decide)) (by decide)).mono ?_); rintro e w1 ⟨rfl, hb1⟩)
    rw [HC.out]
    go_wp2_with fail
    ((with_reducible refine (gcd_any _ _ _ (Nat.le_trans hl (by decide)) (Nat.le_trans hl' (by decide)) (by exact hG.below hb1)).mono ?_); rintro e w4 ⟨rfl, hb4⟩)
    have hb4 := bto hb1 hb4
    go_wp2_with fail
    ((with_reducible refine (idiv_any _ _ _ (Nat.le_trans hl (by decide)) hgl (by exact hG.below hb4) (by rw [val_canon]; have := HG0.out; omega)).mono ?_); rintro e w5 ⟨rfl, hb5⟩)
    have hb5 := bto hb4 hb5
    rw [val_canon]
    go_wp2_with fail
    ((with_reducible refine (idiv_any _ _ _ (Nat.le_trans hl' (by decide)) hgl (by exact hG.below hb5) (by rw [val_canon]; have := HG0.out; omega)).mono ?_); rintro e w6 ⟨rfl, hb6⟩)
    have hb6 := bto hb5 hb6
    rw [val_canon]
    go_wp2
    go_ret2
    exact ⟨rfl, hb6⟩
end Go.Proofs.YtjhafnnfkaejgaaGreatDoor
