/- Slices of api.Int as arguments. -/
import Derived.Test.YtolbojchdlojnaaGreatDoorOpk
import Derived.Test.YtolbojchdlojnaaGreatDoorWq
namespace Go.Proofs.YtolbojchdlojnaaGreatDoor
open Go.ChangeShapes Go.WideShapes Go.ChangeAt Go.RowKit Go.Deep
section
variable {H : Type} {enc : TypeId × Value → H} {w : World} {base : Nat} {spare : Nat → Bool} {held : Bool}
set_option maxRecDepth 10000 in
theorem open_ais {r : Reach} {b0 : Nat} {v : Value} {d : DataW H} {p : List MemPlace} (hv : Value.okWide Tryz.prog w r b0 74 v) (h : DataW.Trod enc Tryz.prog w base spare held 74 v d p) :
    ∃ (A : Option Addr) (n c : Nat) (ts : List (List UInt8)), v = .slice A n c ∧ ts.length = n ∧ n ≤ c ∧ n ≤ 9223372036854775807 ∧ SAt w A ts := by
  obtain ⟨A, n, c, rfl⟩ := okWide_slice Tryz.underlying74 hv
  obtain ⟨fuel, hf⟩ := h
  rcases open_slice Tryz.underlying74 hf with ⟨hcs, -⟩ | ⟨a, len, cap, m, k, D, Pl, hcs, -, hl, hm, hmm, -, hi⟩
  · have hcs : [Value.slice A n c] = [.slice none 0 0] := hcs
    injection hcs with hcs
    injection hcs with h1 h2 h3
    subst h1 h2 h3
    exact ⟨none, 0, 0, [], rfl, rfl, Nat.le_refl _, by omega, fun i x hx => by simp at hx⟩
  · have hcs : [Value.slice A n c] = [.slice (some a) len cap] := hcs
    injection hcs with hcs
    injection hcs with h1 h2 h3
    subst h1 h2 h3
    have hnm : n ≤ m := by rw [hmm]; split <;> omega
    unfold maxLen at hm
    rw [czk_ai] at hi
    have hy : ∀ i, i < n → ∃ t : List UInt8, w.cell? ((a.add (i * 1)).add 0) = some (.string ⟨t.toArray⟩) := fun i hin => by
      obtain ⟨cs', hc, ht⟩ := hi i (by omega)
      obtain ⟨s1, e1, -, w1⟩ := DataW.trod_string Tryz.underlying23 ht
      obtain ⟨_, hcl, hat⟩ := World.cells?_some hc
      exact ⟨s1.data.toList, by rw [hat 0 (by decide), e1]; rfl⟩
    have hget : ∀ i t, ((List.range n).map fun i => if hin : i < n then (hy i hin).choose else [])[i]? = some t → ∃ hin : i < n, (hy i hin).choose = t := fun i t hx => by
      have hin : i < n := by
        have := (List.getElem?_eq_some_iff.1 hx).1
        simpa using this
      rw [List.getElem?_map, List.getElem?_range hin] at hx
      simp only [Option.map_some, dif_pos hin, Option.some.injEq] at hx
      exact ⟨hin, hx⟩
    refine ⟨some a, n, c, (List.range n).map fun i => if hin : i < n then (hy i hin).choose else [], rfl, by simp, hl, by omega, ?_⟩
    · intro i t hx
      obtain ⟨hin, rfl⟩ := hget i t hx
      have hcell := (hy i hin).choose_spec
      obtain ⟨hs0, hbl⟩ := cell_plain' (hy 0 (by omega)).choose_spec
      generalize (hy i hin).choose = t at hcell ⊢
      obtain ⟨b, o, s⟩ := a
      have hz : ((⟨b, o, s⟩ : Addr).add (0 * 1)).add 0 = ⟨b, o, s⟩ := by simp [Addr.add]
      rw [hz] at hs0 hbl
      have hs0 : s = none := hs0
      subst hs0
      simp only [Lib.add_plain, Nat.mul_one, Nat.add_zero] at hcell
      exact ⟨b, o, rfl, hbl, hcell⟩
end
end Go.Proofs.YtolbojchdlojnaaGreatDoor
