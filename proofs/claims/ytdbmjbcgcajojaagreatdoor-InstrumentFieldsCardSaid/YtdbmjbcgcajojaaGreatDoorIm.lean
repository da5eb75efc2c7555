/- Plain: changes that make an instrument not valid. -/
import Derived.Test.YtdbmjbcgcajojaaGreatDoorIl
namespace Go.Proofs.YtdbmjbcgcajojaaGreatDoor
open Go.RowKit Num
theorem chk_parts {x : Ins} (h : chkE x = 0) : nameB x.id = true ∧ ¬ (x.kind < 1 ∨ 5 < x.kind) ∧ codeB x.cur = true ∧ ¬ (x.places < 0 ∨ 12 < x.places) ∧ dayB x.issued = true ∧ tailE x = 0 := by
  unfold chkE at h
  split at h
  · exact absurd h (by decide)
  next h1 =>
  split at h
  · exact absurd h (by decide)
  next h2 =>
  split at h
  · exact absurd h (by decide)
  next h3 =>
  split at h
  · exact absurd h (by decide)
  next h4 =>
  split at h
  · exact absurd h (by decide)
  next h5 => exact ⟨by simpa using h1, h2, by simpa using h3, h4, by simpa using h5, h⟩
theorem tail_parts {x : Ins} (h : tailE x = 0) : matB x = false ∧ ownE x = 0 := by
  unfold tailE at h
  split at h
  · exact absurd h (by decide)
  next h1 =>
  refine ⟨by simpa using h1, ?_⟩
  split at h
  · next h2 => exact absurd h h2
  · exact h
theorem bad_own {x : Ins} (h : ownE x ≠ 0) : chkE x ≠ 0 := fun e => h (tail_parts (chk_parts e).2.2.2.2.2).2
theorem bad_mat {x : Ins} (h : matB x = true) : chkE x ≠ 0 := fun e => by
  have := (tail_parts (chk_parts e).2.2.2.2.2).1
  rw [h] at this; cases this
theorem plain_no {x : Ins} (h : sg x.fn ≠ 0 ∨ sg x.cn ≠ 0 ∨ x.months ≠ 0 ∨ x.count ≠ 0 ∨ sg x.sn ≠ 0 ∨ x.other ≠ []) : plainE x ≠ 0 := by unfold plainE; rw [if_pos h]; decide
theorem fwd_no {x : Ins} (h : sg x.fn ≠ 0 ∨ sg x.cn ≠ 0 ∨ x.months ≠ 0 ∨ x.count ≠ 0) : fwdE x ≠ 0 := by
  unfold fwdE
  split
  · decide
  · split
    · decide
    · first | decide | (rw [if_pos h]; decide)
theorem bond_no {x : Ins} (h : x.other ≠ [] ∨ sg x.sn ≠ 0) : bondE x ≠ 0 := by
  unfold bondE
  split
  · decide
  · first | decide | (rw [if_pos h]; decide)
theorem own_not2 {x : Ins} (hk : ¬ x.kind = 2) (h : sg x.fn ≠ 0 ∨ sg x.cn ≠ 0 ∨ x.months ≠ 0 ∨ x.count ≠ 0) : ownE x ≠ 0 := by
  unfold ownE
  rw [if_neg hk]
  split
  · exact fwd_no h
  · exact plain_no (h.elim .inl (fun h => .inr (h.elim .inl (fun h => .inr (h.elim .inl (fun h => .inr (.inl h)))))))
theorem own_not5 {x : Ins} (hk : ¬ x.kind = 5) (h : x.other ≠ [] ∨ sg x.sn ≠ 0) : ownE x ≠ 0 := by
  unfold ownE
  split
  · exact bond_no h
  · try rw [if_neg hk]
    exact plain_no (h.elim (fun h => .inr (.inr (.inr (.inr (.inr h))))) (fun h => .inr (.inr (.inr (.inr (.inl h))))))
theorem sg_one : sg [49] ≠ 0 := by decide
theorem bad2 {x : Ins} (hk : ¬ x.kind = 2) : chkE (mod2 x) ≠ 0 := bad_own (own_not2 (x := mod2 x) hk (.inl sg_one))
theorem bad3 {x : Ins} (hk : ¬ x.kind = 2) : chkE (mod3 x) ≠ 0 := bad_own (own_not2 (x := mod3 x) hk (.inr (.inl sg_one)))
theorem bad4 {x : Ins} (hk : ¬ x.kind = 2) : chkE (mod4 x) ≠ 0 := bad_own (own_not2 (x := mod4 x) hk (.inr (.inr (.inl (by show (6 : Int) ≠ 0; decide)))))
theorem bad5 {x : Ins} (hk : ¬ x.kind = 2) : chkE (mod5 x) ≠ 0 := bad_own (own_not2 (x := mod5 x) hk (.inr (.inr (.inr (by show (1 : Int) ≠ 0; decide)))))
theorem bad6 {x : Ins} (hk : ¬ x.kind = 5) : chkE (mod6 x) ≠ 0 := bad_own (own_not5 (x := mod6 x) hk (.inr sg_one))
theorem bad7 {x : Ins} (hk : ¬ x.kind = 5) : chkE (mod7 x) ≠ 0 := bad_own (own_not5 (x := mod7 x) hk (.inl (by show ([69, 85, 82] : List UInt8) ≠ []; simp)))
theorem bad8 {x : Ins} (hk : x.kind = 2 ∨ x.kind = 5) : chkE (mod8 x) ≠ 0 := bad_mat (by
  rw [mat_0 (x := mod8 x) rfl]
  unfold endsB
  show (decide (x.kind = 2) || decide (x.kind = 5)) = true
  rcases hk with h | h <;> rw [h] <;> rfl)
theorem bad9 {x : Ins} : chkE (mod9 x) ≠ 0 := fun e => (chk_parts e).2.1 (.inr (by show (5 : Int) < 6; decide))
theorem bad10 {x : Ins} : chkE (mod10 x) ≠ 0 := fun e => (chk_parts e).2.2.2.1 (.inl (by show (-1 : Int) < 0; decide))
/-- the Id matters by its being a name alone -/
theorem chk_id {x : Ins} (h : chkE x = 0) (id : List UInt8) : (chkE { x with id := id } == 0) = nameB id := by
  obtain ⟨h1, h2, h3, h4, h5, h6⟩ := chk_parts h
  have e : tailE { x with id := id } = tailE x := rfl
  by_cases hn : nameB id = true
  · rw [hn, beq_iff_eq]
    unfold chkE
    rw [if_neg (fun g => g hn), if_neg h2, if_neg (fun g => g h3), if_neg h4, if_neg (fun g => g h5), e]; exact h6
  · rw [not_true_b hn, beq_eq_false_iff_ne]
    unfold chkE
    rw [if_pos hn]; decide
structure BadSmall (y : Ins) : Prop where
  bad : chkE y ≠ 0
  small : y.Small
section
variable {x : Ins} (hx : x.Small)
include hx
theorem bs2 (hk : ¬ x.kind = 2) : BadSmall (mod2 x) := ⟨bad2 hk, ⟨hx.id, hx.cur, hx.other, by show ([49] : List UInt8).length ≤ 60; decide, by show ([] : List UInt8).length ≤ 60; decide, hx.cn, hx.cd, hx.sn, hx.sd⟩⟩
theorem bs3 (hk : ¬ x.kind = 2) : BadSmall (mod3 x) := ⟨bad3 hk, ⟨hx.id, hx.cur, hx.other, hx.fn, hx.fd, by show ([49] : List UInt8).length ≤ 60; decide, by show ([] : List UInt8).length ≤ 60; decide, hx.sn, hx.sd⟩⟩
theorem bs4 (hk : ¬ x.kind = 2) : BadSmall (mod4 x) := ⟨bad4 hk, ⟨hx.id, hx.cur, hx.other, hx.fn, hx.fd, hx.cn, hx.cd, hx.sn, hx.sd⟩⟩
theorem bs5 (hk : ¬ x.kind = 2) : BadSmall (mod5 x) := ⟨bad5 hk, ⟨hx.id, hx.cur, hx.other, hx.fn, hx.fd, hx.cn, hx.cd, hx.sn, hx.sd⟩⟩
theorem bs6 (hk : ¬ x.kind = 5) : BadSmall (mod6 x) := ⟨bad6 hk, ⟨hx.id, hx.cur, hx.other, hx.fn, hx.fd, hx.cn, hx.cd, by show ([49] : List UInt8).length ≤ 60; decide, by show ([] : List UInt8).length ≤ 60; decide⟩⟩
theorem bs7 (hk : ¬ x.kind = 5) : BadSmall (mod7 x) := ⟨bad7 hk, ⟨hx.id, hx.cur, by show ([69, 85, 82] : List UInt8).length ≤ 60; decide, hx.fn, hx.fd, hx.cn, hx.cd, hx.sn, hx.sd⟩⟩
theorem bs8 (hk : x.kind = 2 ∨ x.kind = 5) : BadSmall (mod8 x) := ⟨bad8 hk, ⟨hx.id, hx.cur, hx.other, hx.fn, hx.fd, hx.cn, hx.cd, hx.sn, hx.sd⟩⟩
theorem bs9 : BadSmall (mod9 x) := ⟨bad9, ⟨hx.id, hx.cur, hx.other, hx.fn, hx.fd, hx.cn, hx.cd, hx.sn, hx.sd⟩⟩
theorem bs10 : BadSmall (mod10 x) := ⟨bad10, ⟨hx.id, hx.cur, hx.other, hx.fn, hx.fd, hx.cn, hx.cd, hx.sn, hx.sd⟩⟩
theorem small_id (id : List UInt8) (h : id.length ≤ 60) : ({ x with id := id } : Ins).Small := ⟨h, hx.cur, hx.other, hx.fn, hx.fd, hx.cn, hx.cd, hx.sn, hx.sd⟩
end
end Go.Proofs.YtdbmjbcgcajojaaGreatDoor
