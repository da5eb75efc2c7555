/- Plain: parts of a valid list of instruments. -/
import Derived.Test.YtmjglcgdcclinaaGreatDoorIp
namespace Go.Proofs.YtmjglcgdcclinaaGreatDoor
open Go.RowKit Num
theorem allL_iff (ts : List Cur) : ∀ (xs seen : List Ins), allL ts seen xs = 0 ↔ (∀ x ∈ xs, chkE x = 0 ∧ knownE x ts = 0 ∧ seen.any (isId x.id) = false) ∧ xs.Pairwise (fun a b => isId b.id a = false)
  | [], seen => by simp [allL]
  | x :: r, seen => by
    have ih := allL_iff ts r (seen ++ [x])
    unfold allL
    by_cases h1 : chkE x = 0
    · rw [if_neg (fun h => h h1)]
      by_cases h2 : seen.any (isId x.id) = true
      · rw [if_pos h2]
        refine ⟨fun h => absurd h (by decide), fun h => ?_⟩
        have := (h.1 x List.mem_cons_self).2.2
        rw [h2] at this; cases this
      · rw [if_neg h2]
        by_cases h3 : knownE x ts = 0
        · rw [if_neg (fun h => h h3), ih]
          simp only [List.mem_cons, forall_eq_or_imp, List.any_append, List.any_cons, List.any_nil, Bool.or_false, Bool.or_eq_false_iff, List.pairwise_cons]
          constructor
          · rintro ⟨a, b⟩
            exact ⟨⟨⟨h1, h3, not_true_b h2⟩, fun y hy => ⟨(a y hy).1, (a y hy).2.1, (a y hy).2.2.1⟩⟩, fun y hy => (a y hy).2.2.2, b⟩
          · rintro ⟨⟨-, a⟩, c, b⟩
            exact ⟨fun y hy => ⟨(a y hy).1, (a y hy).2.1, (a y hy).2.2, c y hy⟩, b⟩
        · rw [if_pos h3]
          refine ⟨fun h => absurd h (by decide), fun h => absurd (h.1 x List.mem_cons_self).2.1 h3⟩
    · rw [if_pos h1]
      exact ⟨fun h => absurd h h1, fun h => absurd (h.1 x List.mem_cons_self).1 h1⟩
theorem allL_sub {ts : List Cur} {xs ys : List Ins} (h : allL ts [] xs = 0) (hs : ys.Sublist xs) : allL ts [] ys = 0 := by
  rw [allL_iff] at h ⊢
  exact ⟨fun x hx => h.1 x (hs.subset hx), h.2.sublist hs⟩
theorem allL_snoc {ts : List Cur} {x : Ins} : ∀ (xs seen : List Ins), allL ts seen xs = 0 → chkE x = 0 → (seen ++ xs).any (isId x.id) = true → allL ts seen (xs ++ [x]) = 5
  | [], seen, _, h1, h2 => by
    rw [List.append_nil] at h2
    show allL ts seen [x] = 5
    unfold allL
    rw [if_neg (fun h => h h1), if_pos h2]
  | y :: r, seen, h, h1, h2 => by
    rw [List.cons_append]
    unfold allL at h ⊢
    by_cases g1 : chkE y = 0
    · rw [if_neg (fun h => h g1)] at h ⊢
      by_cases g2 : seen.any (isId y.id) = true
      · rw [if_pos g2] at h; exact absurd h (by decide)
      · rw [if_neg g2] at h ⊢
        by_cases g3 : knownE y ts = 0
        · rw [if_neg (fun h => h g3)] at h ⊢
          exact allL_snoc r (seen ++ [y]) h h1 (by rw [List.append_assoc]; exact h2)
        · rw [if_pos g3] at h; exact absurd h (by decide)
    · rw [if_pos g1] at h; exact absurd h g1
theorem allE_parts {ts : List Cur} {xs : List Ins} (h : allE xs ts = 0) : tabE ts = 0 ∧ xs.length ≤ 64 ∧ allL ts [] xs = 0 := by
  unfold allE at h
  by_cases h1 : tabE ts = 0
  · rw [if_neg (fun g => g h1)] at h
    by_cases h2 : 64 < xs.length
    · rw [if_pos h2] at h; exact absurd h (by decide)
    · rw [if_neg h2] at h; exact ⟨h1, by omega, h⟩
  · rw [if_pos h1] at h; exact absurd h (by decide)
theorem allE_sub {ts : List Cur} {xs ys : List Ins} (h : allE xs ts = 0) (hs : ys.Sublist xs) : allE ys ts = 0 := by
  obtain ⟨h1, h2, h3⟩ := allE_parts h
  unfold allE
  have := hs.length_le
  rw [if_neg (fun g => g h1), if_neg (by omega)]
  exact allL_sub h3 hs
theorem allE_twice {ts : List Cur} {xs : List Ins} {x : Ins} (h : allE xs ts = 0) (hx : x ∈ xs) (hl : xs.length ≤ 63) : allE (xs ++ [x]) ts = 5 := by
  obtain ⟨h1, h2, h3⟩ := allE_parts h
  have hc := ((allL_iff ts xs []).1 h3).1 x hx
  unfold allE
  rw [if_neg (fun g => g h1), if_neg (by rw [List.length_append]; simp; omega)]
  exact allL_snoc xs [] h3 hc.1 (by rw [List.nil_append, List.any_eq_true]; exact ⟨x, hx, by unfold isId; rw [beq_iff_eq]⟩)
end Go.Proofs.YtmjglcgdcclinaaGreatDoor
