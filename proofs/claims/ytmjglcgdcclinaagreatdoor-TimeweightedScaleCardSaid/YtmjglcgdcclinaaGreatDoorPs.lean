/- Plain: the signs of sums, one behind the other. -/
import Derived.Test.YtmjglcgdcclinaaGreatDoorPw
namespace Go.Proofs.YtmjglcgdcclinaaGreatDoor
open Num
/-- changes, the first sign, the last sign: one sum more -/
def sgStep (t : Int × Int × Int) (y : Int) : Int × Int × Int := (if t.2.1 = 0 then t.1 else if cmpZ y 0 = t.2.2 then t.1 else t.1 + 1, if t.2.1 = 0 then cmpZ y 0 else t.2.1, cmpZ y 0)
def sgFold (l : List Int) : Int × Int × Int := l.foldl sgStep (0, 0, 0)
theorem sgFold_snoc (l : List Int) (y : Int) : sgFold (l ++ [y]) = sgStep (sgFold l) y := by unfold sgFold; rw [List.foldl_append]; rfl
theorem cmpZ_ne {c : Int} (h : c ≠ 0) : cmpZ c 0 ≠ 0 := by rcases cmpZ_cases c with g | g | g <;> omega
theorem sgFold_go : ∀ (l : List Int) (c f a : Int), f ≠ 0 → l.foldl sgStep (c, f, a) = (c + (chL a l : Int), f, lastS a l)
  | [], c, f, a, _ => by simp [chL, lastS]
  | y :: r, c, f, a, h => by
    rw [List.foldl_cons]
    have e : sgStep (c, f, a) y = (c + (if cmpZ y 0 = a then (0 : Int) else 1), f, cmpZ y 0) := by
      unfold sgStep
      simp only [if_neg h]
      by_cases g : cmpZ y 0 = a
      · rw [if_pos g, if_pos g, Int.add_zero]
      · rw [if_neg g, if_neg g]
    rw [e, sgFold_go r _ f _ h]
    have e2 : chL a (y :: r) = (if cmpZ y 0 = a then 0 else 1) + chL (cmpZ y 0) r := rfl
    show _ = (c + ((chL a (y :: r) : Nat) : Int), f, lastS (cmpZ y 0) r)
    rw [e2]
    by_cases g : cmpZ y 0 = a
    · rw [if_pos g, if_pos g, Nat.zero_add, Int.add_zero]
    · rw [if_neg g, if_neg g, Int.natCast_add, Int.add_assoc]; rfl
theorem sgFold_eq (l : List Int) (h : ∀ c ∈ l, c ≠ 0) : sgFold l = ((chN l : Int), sg1 l, lastS 0 l) := by
  cases l with
  | nil => rfl
  | cons y r =>
    have hy := cmpZ_ne (h y (List.mem_cons_self ..))
    unfold sgFold
    rw [List.foldl_cons]
    have e : sgStep (0, 0, 0) y = (0, cmpZ y 0, cmpZ y 0) := by unfold sgStep; simp
    rw [e, sgFold_go r 0 _ _ hy, Int.zero_add]
    rfl
theorem sums_ne (l : List PZ) : ∀ c ∈ sumsL 0 l, c ≠ 0 := by rw [sums_nz]; exact nz_ne _
/-- the greatest number with a property is kept between two numbers -/
theorem chN_sig (c : Int) (r : List Int) : chN (c :: r) = chL (cmpZ c 0) r := rfl
/-- how often neighbours differ, in a list of signs -/
def nbN : List Int → Nat
  | a :: b :: r => (if b = a then 0 else 1) + nbN (b :: r)
  | _ => 0
theorem nb_ch : ∀ (l : List Int) (c : Int), nbN ((c :: l).map (fun x => cmpZ x 0)) = chL (cmpZ c 0) l
  | [], c => rfl
  | d :: r, c => by
    show (if cmpZ d 0 = cmpZ c 0 then 0 else 1) + nbN ((d :: r).map (fun x => cmpZ x 0)) = _
    rw [nb_ch r d]; rfl
theorem nb_chN (l : List Int) : nbN (l.map (fun x => cmpZ x 0)) = chN l := by
  cases l with
  | nil => rfl
  | cons c r => exact nb_ch r c
theorem lastS_get : ∀ (l : List Int) (a : Int) (h : l ≠ []), lastS a l = cmpZ (l.getLast h) 0
  | [c], a, h => rfl
  | c :: d :: r, a, h => by
    show lastS (cmpZ c 0) (d :: r) = _
    rw [lastS_get (d :: r) _ (by simp)]
    exact congrArg (fun x => cmpZ x 0) (List.getLast_cons (by simp)).symm
/-- the root's number, known by two places -/
theorem root_of {l : List PZ} {a u z : Int} (hl : UpL a l) (hc : chN (sumsL 0 l) = 1) (h0 : 0 < u) (hz : 0 ≤ z) (h1 : placeQ (sg1 (sumsL 0 l)) l (Rat.divInt z u) ≤ 0) (h2 : 0 < placeQ (sg1 (sumsL 0 l)) l (Rat.divInt (z + 1) u)) : Root l u z := by
  obtain ⟨y, hy⟩ := root_is l a u hl hc h0
  have e : y = z := by
    have k2 : ¬ z + 1 ≤ y := fun h => by have := (hy.iff (z + 1) (by omega)).2 h; omega
    by_cases g : z = 0
    · have := hy.nn; omega
    · have := (hy.iff z (by omega)).1 h1; omega
  exact e ▸ hy
/-- between two numbers, a middle one -/
theorem mid_lt {a b : Int} (h : a + 1 < b) : a < divZ (a + b) 2 ∧ divZ (a + b) 2 < b := by unfold divZ; rw [if_pos (by decide)]; omega
end Go.Proofs.YtmjglcgdcclinaaGreatDoor
