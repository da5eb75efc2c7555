/- Plain: parts of a series, a further point. No program in sight. -/
import Derived.Test.YtmjglcgdcclinaaGreatDoorTp
namespace Go.Proofs.YtmjglcgdcclinaaGreatDoor
open Num
theorem facs_cut : ∀ (l : List PT) (k : Nat), k < l.length → facs l = facs (l.take (k + 1)) ++ facs (l.drop k)
  | [], k, h => by simp at h
  | a :: r, 0, _ => by
    show facs (a :: r) = facs [a] ++ facs (a :: r)
    rfl
  | [a], k + 1, h => by simp at h
  | a :: b :: r, k + 1, h => by
    have ih := facs_cut (b :: r) k (by simpa using h)
    show Rat.divInt b.2.1 (a.2.1 + a.2.2) :: facs (b :: r) = Rat.divInt b.2.1 (a.2.1 + a.2.2) :: facs ((b :: r).take (k + 1)) ++ facs ((b :: r).drop k)
    rw [ih]; rfl
theorem facs_mid (x : PT) (hx : 0 < x.2.1) (h0 : x.2.2 = 0) : ∀ (l : List PT) (k : Nat), 1 ≤ k → k < l.length → ∀ y : Rat, prodQ y (facs (l.take k ++ x :: l.drop k)) = prodQ y (facs l)
  | [], k, h1, h2, y => by simp at h2
  | [a], k, h1, h2, y => by simp at h2; omega
  | a :: b :: r, 0, h1, h2, y => by omega
  | a :: b :: r, 1, h1, h2, y => by
    show prodQ (y * Rat.divInt x.2.1 (a.2.1 + a.2.2) * Rat.divInt b.2.1 (x.2.1 + x.2.2)) (facs (b :: r)) = prodQ (y * Rat.divInt b.2.1 (a.2.1 + a.2.2)) (facs (b :: r))
    congr 1
    rw [h0, Int.add_zero, divInt_div, divInt_div, divInt_div]
    have n1 := intq_ne (show x.2.1 ≠ 0 by omega)
    generalize ((a.2.1 + a.2.2 : Int) : Rat) = s
    grind
  | a :: b :: r, k + 2, h1, h2, y => by
    have ih := facs_mid x hx h0 (b :: r) (k + 1) (by omega) (by simpa using h2) (y * Rat.divInt b.2.1 (a.2.1 + a.2.2))
    show prodQ y (facs (a :: b :: ((r.take k) ++ x :: r.drop k))) = prodQ (y * Rat.divInt b.2.1 (a.2.1 + a.2.2)) (facs (b :: r))
    rw [← ih]
    rfl
/-- the points of a period -/
def inPer (a b : Int) (t : Pnt) : Bool := decide (a ≤ t.day) && decide (t.day ≤ b)
theorem filter_take : ∀ (ts : List Pnt) (o : Option Int) (k : Nat) (z : Pnt) (a : Int), UpD o ts → ts[k]? = some z → (∀ t ∈ ts, a ≤ t.day) → ts.filter (inPer a z.day) = ts.take (k + 1)
  | [], _, k, z, a, _, h, _ => by simp at h
  | p :: r, o, 0, z, a, hu, h, hl => by
    have : p = z := by simpa using h
    subst this
    rw [List.filter_cons, if_pos (by unfold inPer; simp [hl p (by simp)])]
    show p :: _ = [p]
    congr 1
    rw [List.filter_eq_nil_iff]
    intro t ht
    obtain ⟨i, hi⟩ := List.mem_iff_getElem?.1 ht
    have := upD_le hu.2 hi p.day rfl
    unfold inPer
    simp
    omega
  | p :: r, o, k + 1, z, a, hu, h, hl => by
    have hz : r[k]? = some z := by simpa using h
    have h1 := upD_le hu.2 hz p.day rfl
    rw [List.filter_cons, if_pos (by unfold inPer; simp [hl p (by simp)]; omega)]
    show _ = p :: r.take (k + 1)
    rw [filter_take r (some p.day) k z a hu.2 hz (fun t ht => hl t (List.mem_cons_of_mem _ ht))]
theorem filter_drop : ∀ (ts : List Pnt) (o : Option Int) (k : Nat) (z : Pnt) (b : Int), UpD o ts → ts[k]? = some z → (∀ t ∈ ts, t.day ≤ b) → ts.filter (inPer z.day b) = ts.drop k
  | [], _, k, z, b, _, h, _ => by simp at h
  | p :: r, o, 0, z, b, hu, h, hl => by
    have : p = z := by simpa using h
    subst this
    rw [List.drop_zero, List.filter_eq_self]
    intro t ht
    obtain ⟨i, hi⟩ := List.mem_iff_getElem?.1 ht
    have h1 := hl t ht
    unfold inPer
    cases i with
    | zero =>
      have : p = t := by simpa using hi
      subst this; simpa using h1
    | succ i =>
      have := upD_le (ts := r) (k := i) hu.2 (by simpa using hi) p.day rfl
      simp; omega
  | p :: r, o, k + 1, z, b, hu, h, hl => by
    have hz : r[k]? = some z := by simpa using h
    have h1 := upD_le hu.2 hz p.day rfl
    rw [List.filter_cons, if_neg (by unfold inPer; simp; omega)]
    show _ = r.drop k
    exact filter_drop r (some p.day) k z b hu.2 hz (fun t ht => hl t (List.mem_cons_of_mem _ ht))
end Go.Proofs.YtmjglcgdcclinaaGreatDoor
