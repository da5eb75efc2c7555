/- Cd: rff rfg -/
import Derived.Test.YtmjglcgdcclinaaGreatDoorCc
import Derived.Test.YtmjglcgdcclinaaGreatDoorBe
/- trancheref02: Parse. -/
namespace Go.Proofs.YtmjglcgdcclinaaGreatDoor
open Go.RowKit Num
/-- where the first slash stands, or the end -/
def at47 (s : List UInt8) : Nat := (s.takeWhile (fun c => c.toNat != 47)).length
theorem at47_le (s : List UInt8) : at47 s ≤ s.length := (List.takeWhile_sublist _).length_le
theorem at47_drop {s : List UInt8} {k : Nat} {x : UInt8} (h : s[k]? = some x) : at47 (s.drop k) = if (x.toNat : Int) = 47 then 0 else 1 + at47 (s.drop (k + 1)) := by
  have hk := (List.getElem?_eq_some_iff.1 h).1
  have hx := (List.getElem?_eq_some_iff.1 h).2
  rw [List.drop_eq_getElem_cons hk, hx]
  unfold at47
  by_cases h1 : x.toNat = 47
  · rw [if_pos (by omega), List.takeWhile_cons_of_neg (by simp [h1])]; rfl
  · rw [if_neg (by omega), List.takeWhile_cons_of_pos (by simpa using h1), List.length_cons, Nat.add_comm]
theorem at47_cut (s : List UInt8) : Lib.cut s [47] = (s.take (at47 s), if at47 s < s.length then s.drop (at47 s + 1) else [], decide (at47 s < s.length)) := by
  have e := List.takeWhile_append_dropWhile (p := fun c : UInt8 => c.toNat != 47) (l := s)
  have hn : (47 : UInt8) ∉ s.takeWhile (fun c => c.toNat != 47) := fun h => by
    have h0 := List.all_takeWhile (p := fun c : UInt8 => c.toNat != 47) (l := s)
    have h1 := List.all_eq_true.1 h0 47 h
    exact absurd h1 (by decide)
  unfold at47
  generalize ha : s.takeWhile (fun c => c.toNat != 47) = a at *
  cases hd : s.dropWhile (fun c => c.toNat != 47) with
  | nil =>
    rw [hd, List.append_nil] at e
    subst e
    rw [cut47_none hn, if_neg (by omega), List.take_length, decide_eq_false (by omega)]
  | cons x b =>
    have hx : x = 47 := by
      have h1 := List.head_dropWhile_not (p := fun c : UInt8 => c.toNat != 47) (l := s) (by rw [hd]; simp)
      simp only [hd, List.head_cons] at h1
      exact UInt8.toNat_inj.1 (by simpa using h1)
    subst hx
    rw [hd] at e
    rw [← e, cut47_at b hn, if_pos (by simp), decide_eq_true (by simp)]
    simp
theorem printQ_below {s : List UInt8} {q : Rat} (h : printQ q = s) (hs : s.length ≤ 65536) : val (parseI (belowOf s)).1 = (q.den : Int) := by
  subst h
  by_cases hd : q.den = 1
  · have e : printQ q = printZ q.num := by unfold printQ; rw [if_pos hd]
    have hc := cut47_none (no47_printZ q.num)
    unfold belowOf; rw [e, hc, hd]; exact (by decide : val (parseI [49]).1 = ((1 : Nat) : Int))
  · have e : printQ q = printZ q.num ++ 47 :: printZ (q.den : Int) := by unfold printQ; rw [if_neg hd]
    have hl : (printZ q.num).length + ((printZ (q.den : Int)).length + 1) ≤ 65536 := by rw [e] at hs; simpa using hs
    have hc := cut47_at (printZ (q.den : Int)) (no47_printZ q.num)
    unfold belowOf; rw [e, hc]
    show val (parseI (printZ (q.den : Int))).1 = _
    rw [parseI_printZ (by omega), val_canon]
/-- what the reference's Parse returns -/
def parseV (e1 e2 e3 : Int) (u v : Value) (same : Bool) : Value :=
  if e2 = 0 ∧ e1 = 0 ∧ e3 = 0 ∧ same = true then .tuple #[.agg #[u, v], .int .i64 0] else .tuple #[.agg #[.string ⟨#[]⟩, .string ⟨#[]⟩], .int .i64 3]
end Go.Proofs.YtmjglcgdcclinaaGreatDoor
/- Both packages at once: New, Quo, Parse. -/
namespace Go.Proofs.YtmjglcgdcclinaaGreatDoor
open Go.RowKit Num
theorem divInt_one (z : Int) : Rat.divInt z 1 = (z : Rat) := Rat.num_divInt_den (z : Rat)
section
variable {l l' k k' : List UInt8}
theorem new_both (hl : l.length ≤ 3800) (hl' : l'.length ≤ 3800) : ∃ (N D : List UInt8) (c : Int), Ret 98 #[.string ⟨l.toArray⟩, .string ⟨l'.toArray⟩] (.tuple #[.agg #[.string ⟨N.toArray⟩, .string ⟨D.toArray⟩], .int .i64 c]) ∧
    Ret 75 #[.string ⟨l.toArray⟩, .string ⟨l'.toArray⟩] (.tuple #[.agg #[.string ⟨N.toArray⟩, .string ⟨D.toArray⟩], .int .i64 c]) := by
  by_cases h0 : val l' = 0
  · exact ⟨[], [], 10, rNew0 (by omega) h0, sNew0 (by omega) h0⟩
  · refine ⟨_, _, 0, rNew (by omega) (by omega) h0 rfl, sNew1 hl hl' h0 ?_⟩
    unfold fv den1; rw [if_neg h0]
theorem quo_both (hl : l.length ≤ 900) (hl' : l'.length ≤ 900) (hk : k.length ≤ 900) (hk' : k'.length ≤ 900) : ∃ (N D : List UInt8) (c : Int), Ret 49 #[(Value.agg #[Value.string ⟨List.toArray l⟩, Value.string ⟨List.toArray l'⟩]), (Value.agg #[Value.string ⟨List.toArray k⟩, Value.string ⟨List.toArray k'⟩])] (.tuple #[.agg #[.string ⟨N.toArray⟩, .string ⟨D.toArray⟩], .int .i64 c]) ∧
    Ret 88 #[(Value.agg #[Value.string ⟨List.toArray l⟩, Value.string ⟨List.toArray l'⟩]), (Value.agg #[Value.string ⟨List.toArray k⟩, Value.string ⟨List.toArray k'⟩])] (.tuple #[.agg #[.string ⟨N.toArray⟩, .string ⟨D.toArray⟩], .int .i64 c]) := by
  have iF : IsQ l l' (fv l l') := isq_raw hl hl' (by decide)
  have iG : IsQ k k' (fv k k') := isq_raw hk hk' (by decide)
  by_cases h0 : fv k k' = 0
  · exact ⟨[], [], 10, rQuo0 iG h0, sQuo0 hl hl' hk hk' h0⟩
  · exact ⟨_, _, 0, rQuo iF iG h0 rfl, sQuo hl hl' hk hk' h0 rfl⟩
end
end Go.Proofs.YtmjglcgdcclinaaGreatDoor
