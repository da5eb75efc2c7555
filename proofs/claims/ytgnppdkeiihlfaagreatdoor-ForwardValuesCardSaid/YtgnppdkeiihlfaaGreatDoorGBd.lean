/- Bd: awake great ret qlawb long powr -/
import Derived.Test.YtgnppdkeiihlfaaGreatDoorGBc
/- The chapter's examples: awake. -/
namespace Go.Proofs.YtgnppdkeiihlfaaGreatDoor
open Go.RowKit Num
end Go.Proofs.YtgnppdkeiihlfaaGreatDoor
/- trancheref02.Great. -/
namespace Go.Proofs.YtgnppdkeiihlfaaGreatDoor
open Go.RowKit Num
end Go.Proofs.YtgnppdkeiihlfaaGreatDoor
/- The contracts of package fraction over values: a fraction's two strings with a value. -/
namespace Go.Proofs.YtgnppdkeiihlfaaGreatDoor
open Go.RowKit Num
structure IsQ (l l' : List UInt8) (q : Rat) : Prop where
  num : l.length ≤ 100000
  den : l'.length ≤ 100000
  eq : fv l l' = q
theorem isq_raw {l l' : List UInt8} {k : Nat} (h : l.length ≤ k) (h' : l'.length ≤ k) (hk : k ≤ 100000) : IsQ l l' (fv l l') := ⟨Nat.le_trans h hk, Nat.le_trans h' hk, rfl⟩
theorem isq_fr {q : Rat} {k : Nat} (h : Bd k q) (hk : k ≤ 99999) : IsQ (fN q) (fD q) q := ⟨Nat.le_trans (bd_len h).1 (by omega), Nat.le_trans (bd_len h).2 (by omega), fv_frac q⟩
theorem bd_zero : Bd 1 (0 : Rat) := ⟨by decide, by decide⟩
section
variable {l l' k k' : List UInt8} {p q r : Rat}
theorem rAdd (h : IsQ l l' p) (h' : IsQ k k' q) (e : p + q = r) : Ret 38 #[(Value.agg #[Value.string ⟨List.toArray l⟩, Value.string ⟨List.toArray l'⟩]), (Value.agg #[Value.string ⟨List.toArray k⟩, Value.string ⟨List.toArray k'⟩])] (Value.agg #[Value.string ⟨List.toArray (fN r)⟩, Value.string ⟨List.toArray (fD r)⟩]) := fun w hG => by
  have := Add_any l l' k k' w h.num h.den h'.num h'.den hG
  rwa [h.eq, h'.eq, e] at this
theorem rSub (h : IsQ l l' p) (h' : IsQ k k' q) (e : p - q = r) : Ret 41 #[(Value.agg #[Value.string ⟨List.toArray l⟩, Value.string ⟨List.toArray l'⟩]), (Value.agg #[Value.string ⟨List.toArray k⟩, Value.string ⟨List.toArray k'⟩])] (Value.agg #[Value.string ⟨List.toArray (fN r)⟩, Value.string ⟨List.toArray (fD r)⟩]) := fun w hG => by
  have := Sub_any l l' k k' w h.num h.den h'.num h'.den hG
  rwa [h.eq, h'.eq, e] at this
theorem rMul (h : IsQ l l' p) (h' : IsQ k k' q) (e : p * q = r) : Ret 39 #[(Value.agg #[Value.string ⟨List.toArray l⟩, Value.string ⟨List.toArray l'⟩]), (Value.agg #[Value.string ⟨List.toArray k⟩, Value.string ⟨List.toArray k'⟩])] (Value.agg #[Value.string ⟨List.toArray (fN r)⟩, Value.string ⟨List.toArray (fD r)⟩]) := fun w hG => by
  have := Mul_any l l' k k' w h.num h.den h'.num h'.den hG
  rwa [h.eq, h'.eq, e] at this
theorem fv_zero_iff : fv l l' = 0 ↔ val l = 0 := by
  unfold fv
  have := den1_ne (val l')
  constructor
  · intro h
    have h1 := Rat.divInt_eq_divInt_iff (n₁ := val l) (n₂ := 0) this this
    rw [Rat.zero_divInt, h, Int.zero_mul] at h1
    have h2 := h1.1 rfl
    rcases Int.mul_eq_zero.1 h2 with h3 | h3
    · exact h3
    · exact absurd h3 this
  · intro h; rw [h, Rat.zero_divInt]
theorem rQuo (h : IsQ l l' p) (h' : IsQ k k' q) (h0 : q ≠ 0) (e : p / q = r) : Ret 73 #[(Value.agg #[Value.string ⟨List.toArray l⟩, Value.string ⟨List.toArray l'⟩]), (Value.agg #[Value.string ⟨List.toArray k⟩, Value.string ⟨List.toArray k'⟩])] (.tuple #[(Value.agg #[Value.string ⟨List.toArray (fN r)⟩, Value.string ⟨List.toArray (fD r)⟩]), .int .i64 0]) := fun w hG => by
  have := Quo_any l l' k k' w h.num h.den h'.num h'.den hG (fun e0 => h0 (by rw [← h'.eq]; exact fv_zero_iff.2 e0))
  rwa [h.eq, h'.eq, e] at this
theorem rCompare (h : IsQ l l' p) (h' : IsQ k k' q) {c : Int} (e : cmpQ p q = c) : Ret 21 #[(Value.agg #[Value.string ⟨List.toArray l⟩, Value.string ⟨List.toArray l'⟩]), (Value.agg #[Value.string ⟨List.toArray k⟩, Value.string ⟨List.toArray k'⟩])] (.int .i64 c) := fun w hG => by
  have := Compare_any l l' k k' w h.num h.den h'.num h'.den hG
  rwa [h.eq, h'.eq, e] at this
theorem rOf (hl : l.length ≤ 1000000) {z : Int} (e : val l = z) : Ret 40 #[.string ⟨l.toArray⟩] (Value.agg #[Value.string ⟨List.toArray (fN ((z : Rat)))⟩, Value.string ⟨List.toArray (fD ((z : Rat)))⟩]) := fun w hG => by
  have := Of_any l w hl hG
  rwa [e] at this
theorem rParts (h : IsQ l l' p) : Ret 200 #[(Value.agg #[Value.string ⟨List.toArray l⟩, Value.string ⟨List.toArray l'⟩])] (.tuple #[.string ⟨(fN p).toArray⟩, .string ⟨(canon (p.den : Int)).toArray⟩]) := fun w hG => by
  have := Parts_any l l' w (Nat.le_trans h.num (by decide)) (Nat.le_trans h.den (by decide)) hG
  rwa [h.eq] at this
theorem rNew (hl : l.length ≤ 1000000) (hl' : l'.length ≤ 1000000) (h0 : val l' ≠ 0) (e : Rat.divInt (val l) (val l') = r) : Ret 94 #[.string ⟨l.toArray⟩, .string ⟨l'.toArray⟩] (.tuple #[(Value.agg #[Value.string ⟨List.toArray (fN r)⟩, Value.string ⟨List.toArray (fD r)⟩]), .int .i64 0]) := fun w hG => by
  have := New_any l l' w hl hl' hG h0
  rwa [e] at this
theorem rNew0 (hl' : l'.length ≤ 1000000) (h0 : val l' = 0) : Ret 94 #[.string ⟨l.toArray⟩, .string ⟨l'.toArray⟩] (.tuple #[.agg #[.string ⟨#[]⟩, .string ⟨#[]⟩], .int .i64 10]) := fun w _ => New_zero l l' w hl' h0
theorem rCheck (h : IsQ l l' p) {c : Int} (e : (if l = fN p ∧ l' = fD p then 0 else 1) = c) : Ret 145 #[(Value.agg #[Value.string ⟨List.toArray l⟩, Value.string ⟨List.toArray l'⟩])] (.int .i64 c) := fun w hG => by
  have := Check_any l l' w h.num h.den hG
  rwa [h.eq, e] at this
theorem riAdd (hl : l.length ≤ 100000000) (hl' : l'.length ≤ 100000000) {z : Int} (e : val l + val l' = z) : Ret 165 #[.string ⟨l.toArray⟩, .string ⟨l'.toArray⟩] (.string ⟨(canon z).toArray⟩) := fun w hG => by
  have := iadd_any l l' w hl hl' hG
  rwa [e] at this
theorem riCheck (hl : l.length ≤ 1000000) {c : Int} (e : (if l = canon (val l) then 0 else 1) = c) : Ret 17 #[.string ⟨l.toArray⟩] (.int .i64 c) := fun w _ => by
  have := icheck_any l w hl
  rwa [e] at this
theorem riCompare (hl : l.length ≤ 100000000) (hl' : l'.length ≤ 100000000) {c : Int} (e : cmpZ (val l) (val l') = c) : Ret 20 #[.string ⟨l.toArray⟩, .string ⟨l'.toArray⟩] (.int .i64 c) := fun w _ => by
  have := icompare_any l l' w hl hl'
  rwa [e] at this
end
end Go.Proofs.YtgnppdkeiihlfaaGreatDoor
/- Plain: the order of rational numbers, more. -/
namespace Go.Proofs.YtgnppdkeiihlfaaGreatDoor
open Num
theorem cmpQ_if (p q : Rat) : cmpQ p q = if p < q then -1 else if q < p then 1 else 0 := by
  have h1 := cmpQ_neg p q
  have h2 := cmpQ_neg q p
  have h3 := cmpQ_swap p q
  have h4 := cmpQ_bound p q
  split
  · have := h1.2 (by assumption); omega
  · split
    · have := h2.2 (by assumption); omega
    · have a := mt h1.1 (by assumption)
      have b := mt h2.1 (by assumption)
      omega
end Go.Proofs.YtgnppdkeiihlfaaGreatDoor
/- trancheref02.Long. -/
namespace Go.Proofs.YtgnppdkeiihlfaaGreatDoor
open Go.RowKit Num
end Go.Proofs.YtgnppdkeiihlfaaGreatDoor
/- Power, for every exponent. -/
namespace Go.Proofs.YtgnppdkeiihlfaaGreatDoor
open Go.RowKit Num
theorem bd_inv0 {k : Nat} {q : Rat} (h : Bd k q) (hk : 1 ≤ k) : Bd k q⁻¹ := by
  by_cases h0 : q = 0
  · subst h0; rw [Rat.inv_zero]; exact bd_mono bd_zero hk
  · exact bd_inv h h0
end Go.Proofs.YtgnppdkeiihlfaaGreatDoor
