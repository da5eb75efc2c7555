/- The contracts of package fraction over values: a fraction's two strings with a value. -/
import Derived.Test.YtjhafnnfkaejgaaGreatDoorQlaw
import Derived.Test.YtjhafnnfkaejgaaGreatDoorKept
namespace Go.Proofs.YtjhafnnfkaejgaaGreatDoor
open Go.RowKit Num

/-- a call that returns v and keeps what lay -/
def Ret (f : Nat) (args : Array Value) (v : Value) : Prop := ∀ w : World, Glob w → Calls Tryz.prog f args w fun e w' => e = .returned v ∧ Below w.heap.size w w'
theorem Ret.of {f : Nat} {args : Array Value} {v : Value} (h : Ret f args v) {w w' : World} (hG : Glob w) (hb : Below w.heap.size w w') :
    Calls Tryz.prog f args w' fun e w'' => e = .returned v ∧ Below w'.heap.size w' w'' := h w' (hG.below hb)
theorem FBox.ofB {w : World} {b : Nat} {u v : Value} {t : TypeId} (h : w.heap[b]? = some (.cells #[u, v] t (0, 0))) : FBox w b u v :=
  ⟨by rw [cell_of_row w b 0 _ t (0, 0) h]; rfl, by rw [cell_of_row w b 1 _ t (0, 0) h]; rfl, by simp [World.frozen?, h], by simp [World.frozen?, h], (Array.getElem?_eq_some_iff.1 h).1⟩

/-- two strings that make a fraction with the value q, not too long -/
structure IsQ (l l' : List UInt8) (q : Rat) : Prop where
  num : l.length ≤ 100000
  den : l'.length ≤ 100000
  eq : fv l l' = q
theorem isq_raw {l l' : List UInt8} {k : Nat} (h : l.length ≤ k) (h' : l'.length ≤ k) (hk : k ≤ 100000) : IsQ l l' (fv l l') := ⟨Nat.le_trans h hk, Nat.le_trans h' hk, rfl⟩
theorem isq_fr {q : Rat} {k : Nat} (h : Bd k q) (hk : k ≤ 99999) : IsQ (fN q) (fD q) q := ⟨Nat.le_trans (bd_len h).1 (by omega), Nat.le_trans (bd_len h).2 (by omega), fv_frac q⟩
theorem bd_zero : Bd 1 (0 : Rat) := ⟨by decide, by decide⟩
theorem isq_zero : IsQ [] [] 0 := ⟨by decide, by decide, by decide +kernel⟩
section
variable {l l' k k' : List UInt8} {p q r : Rat}
theorem rAdd (h : IsQ l l' p) (h' : IsQ k k' q) (e : p + q = r) : Ret 27 #[(Value.agg #[Value.string ⟨List.toArray l⟩, Value.string ⟨List.toArray l'⟩]), (Value.agg #[Value.string ⟨List.toArray k⟩, Value.string ⟨List.toArray k'⟩])] (Value.agg #[Value.string ⟨List.toArray (fN r)⟩, Value.string ⟨List.toArray (fD r)⟩]) := fun w hG => by
  have := Add_any l l' k k' w h.num h.den h'.num h'.den hG
  rwa [h.eq, h'.eq, e] at this
theorem rSub (h : IsQ l l' p) (h' : IsQ k k' q) (e : p - q = r) : Ret 26 #[(Value.agg #[Value.string ⟨List.toArray l⟩, Value.string ⟨List.toArray l'⟩]), (Value.agg #[Value.string ⟨List.toArray k⟩, Value.string ⟨List.toArray k'⟩])] (Value.agg #[Value.string ⟨List.toArray (fN r)⟩, Value.string ⟨List.toArray (fD r)⟩]) := fun w hG => by
  have := Sub_any l l' k k' w h.num h.den h'.num h'.den hG
  rwa [h.eq, h'.eq, e] at this
theorem rMul (h : IsQ l l' p) (h' : IsQ k k' q) (e : p * q = r) : Ret 28 #[(Value.agg #[Value.string ⟨List.toArray l⟩, Value.string ⟨List.toArray l'⟩]), (Value.agg #[Value.string ⟨List.toArray k⟩, Value.string ⟨List.toArray k'⟩])] (Value.agg #[Value.string ⟨List.toArray (fN r)⟩, Value.string ⟨List.toArray (fD r)⟩]) := fun w hG => by
  have := Mul_any l l' k k' w h.num h.den h'.num h'.den hG
  rwa [h.eq, h'.eq, e] at this
theorem fv_zero_iff : fv l l' = 0 ↔ val l = 0 := by
  unfold fv
  have := den1_ne (val l')
  constructor
  · intro h
    have h1 := Rat.divInt_eq_divInt_iff (n₁ := val l) (n₂ := 0) this this
    rw [Rat.zero_divInt, h, Int.zero_mul] at h1
    have h2 := h1.1 rfl
    rcases Int.mul_eq_zero.1 h2 with h3 | h3
    · exact h3
    · exact absurd h3 this
  · intro h; rw [h, Rat.zero_divInt]
theorem rQuo (h : IsQ l l' p) (h' : IsQ k k' q) (h0 : q ≠ 0) (e : p / q = r) : Ret 31 #[(Value.agg #[Value.string ⟨List.toArray l⟩, Value.string ⟨List.toArray l'⟩]), (Value.agg #[Value.string ⟨List.toArray k⟩, Value.string ⟨List.toArray k'⟩])] (.tuple #[(Value.agg #[Value.string ⟨List.toArray (fN r)⟩, Value.string ⟨List.toArray (fD r)⟩]), .int .i64 0]) := fun w hG => by
  have := Quo_any l l' k k' w h.num h.den h'.num h'.den hG (fun e0 => h0 (by rw [← h'.eq]; exact fv_zero_iff.2 e0))
  rwa [h.eq, h'.eq, e] at this
theorem rQuo0 (h' : IsQ k k' q) (h0 : q = 0) : Ret 31 #[(Value.agg #[Value.string ⟨List.toArray l⟩, Value.string ⟨List.toArray l'⟩]), (Value.agg #[Value.string ⟨List.toArray k⟩, Value.string ⟨List.toArray k'⟩])] (.tuple #[.agg #[.string ⟨#[]⟩, .string ⟨#[]⟩], .int .i64 10]) := fun w _ =>
  Quo_zero l l' k k' w h'.num (fv_zero_iff.1 (h'.eq.trans h0))
theorem rNeg (h : IsQ l l' p) (e : -p = r) : Ret 33 #[(Value.agg #[Value.string ⟨List.toArray l⟩, Value.string ⟨List.toArray l'⟩])] (Value.agg #[Value.string ⟨List.toArray (fN r)⟩, Value.string ⟨List.toArray (fD r)⟩]) := fun w hG => by
  have := Neg_any l l' w h.num h.den hG
  rwa [h.eq, e] at this
theorem rCompare (h : IsQ l l' p) (h' : IsQ k k' q) {c : Int} (e : cmpQ p q = c) : Ret 22 #[(Value.agg #[Value.string ⟨List.toArray l⟩, Value.string ⟨List.toArray l'⟩]), (Value.agg #[Value.string ⟨List.toArray k⟩, Value.string ⟨List.toArray k'⟩])] (.int .i64 c) := fun w hG => by
  have := Compare_any l l' k k' w h.num h.den h'.num h'.den hG
  rwa [h.eq, h'.eq, e] at this
theorem rFloor (h : IsQ l l' p) {z : Int} (e : p.floor = z) : Ret 24 #[(Value.agg #[Value.string ⟨List.toArray l⟩, Value.string ⟨List.toArray l'⟩])] (.string ⟨(canon z).toArray⟩) := fun w hG => by
  have := Floor_any l l' w h.num h.den hG
  rw [floor_divZ _ _ (den1_ne _)] at this
  have e' : (Rat.divInt (val l) (den1 (val l'))).floor = z := by rw [← e, ← h.eq]; rfl
  rwa [e'] at this
theorem rOf (hl : l.length ≤ 1000000) {z : Int} (e : val l = z) : Ret 20 #[.string ⟨l.toArray⟩] (Value.agg #[Value.string ⟨List.toArray (fN ((z : Rat)))⟩, Value.string ⟨List.toArray (fD ((z : Rat)))⟩]) := fun w hG => by
  have := Of_any l w hl hG
  rwa [e] at this
theorem rParts (h : IsQ l l' p) : Ret 14 #[(Value.agg #[Value.string ⟨List.toArray l⟩, Value.string ⟨List.toArray l'⟩])] (.tuple #[.string ⟨(fN p).toArray⟩, .string ⟨(canon (p.den : Int)).toArray⟩]) := fun w hG => by
  have := Parts_any l l' w (Nat.le_trans h.num (by decide)) (Nat.le_trans h.den (by decide)) hG
  rwa [h.eq] at this
theorem rNew (hl : l.length ≤ 1000000) (hl' : l'.length ≤ 1000000) (h0 : val l' ≠ 0) (e : Rat.divInt (val l) (val l') = r) : Ret 16 #[.string ⟨l.toArray⟩, .string ⟨l'.toArray⟩] (.tuple #[(Value.agg #[Value.string ⟨List.toArray (fN r)⟩, Value.string ⟨List.toArray (fD r)⟩]), .int .i64 0]) := fun w hG => by
  have := New_any l l' w hl hl' hG h0
  rwa [e] at this
theorem rNew0 (hl' : l'.length ≤ 1000000) (h0 : val l' = 0) : Ret 16 #[.string ⟨l.toArray⟩, .string ⟨l'.toArray⟩] (.tuple #[.agg #[.string ⟨#[]⟩, .string ⟨#[]⟩], .int .i64 10]) := fun w _ => New_zero l l' w hl' h0
theorem rCheck (h : IsQ l l' p) {c : Int} (e : (if l = fN p ∧ l' = fD p then 0 else 1) = c) : Ret 18 #[(Value.agg #[Value.string ⟨List.toArray l⟩, Value.string ⟨List.toArray l'⟩])] (.int .i64 c) := fun w hG => by
  have := Check_any l l' w h.num h.den hG
  rwa [h.eq, e] at this
theorem rPrint (h : IsQ l l' p) : Ret 45 #[(Value.agg #[Value.string ⟨List.toArray l⟩, Value.string ⟨List.toArray l'⟩])] (.string ⟨(printQ p).toArray⟩) := fun w hG => by
  have := Print_any l l' w h.num h.den hG
  rwa [h.eq] at this
theorem rAwake : Ret 13 #[] (.bool true) := fun w hG => awake_any w hG
theorem riAdd (hl : l.length ≤ 100000000) (hl' : l'.length ≤ 100000000) {z : Int} (e : val l + val l' = z) : Ret 39 #[.string ⟨l.toArray⟩, .string ⟨l'.toArray⟩] (.string ⟨(canon z).toArray⟩) := fun w hG => by
  have := iadd_any l l' w hl hl' hG
  rwa [e] at this
theorem riCheck (hl : l.length ≤ 1000000) {c : Int} (e : (if l = canon (val l) then 0 else 1) = c) : Ret 38 #[.string ⟨l.toArray⟩] (.int .i64 c) := fun w _ => by
  have := icheck_any l w hl
  rwa [e] at this
theorem riGcd (hl : l.length ≤ 100000000) (hl' : l'.length ≤ 100000000) {z : Int} (e : (Int.gcd (val l) (val l') : Int) = z) : Ret 40 #[.string ⟨l.toArray⟩, .string ⟨l'.toArray⟩] (.string ⟨(canon z).toArray⟩) := fun w hG => by
  have := gcd_any l l' w hl hl' hG
  rwa [e] at this
theorem riCompare (hl : l.length ≤ 100000000) (hl' : l'.length ≤ 100000000) {c : Int} (e : cmpZ (val l) (val l') = c) : Ret 41 #[.string ⟨l.toArray⟩, .string ⟨l'.toArray⟩] (.int .i64 c) := fun w _ => by
  have := icompare_any l l' w hl hl'
  rwa [e] at this
end

/-- Great, of a slice just made -/
theorem great_new (w : World) (ls : List (List UInt8)) (n c : Nat) (t : TypeId) (hl : ls.length = n * 2) (hn : n ≤ 1000) :
    Calls Tryz.prog 12 #[.slice (some ⟨w.heap.size, 0, none⟩) n c] (w.alloc (.cells (ls.map fun s => Value.string ⟨s.toArray⟩).toArray t)) fun e w' =>
      ((e = .returned (.bool true) ∧ ∃ s ∈ ls, 60 < s.length) ∨ (e = .returned (.bool false) ∧ ∀ s ∈ ls, s.length ≤ 60)) ∧ Below w.heap.size w w' := by
  refine (great_any w.heap.size n c (fun j => ls.getD j []) _ hn ?_).mono ?_
  · intro j hj
    have h1 : j < ls.length := by omega
    simp [go_sem, h1]
  · rintro e w' ⟨h | h, hb⟩
    · obtain ⟨h1, j, hj, h2⟩ := h
      have h3 : j < ls.length := by omega
      refine ⟨.inl ⟨h1, ls[j], List.getElem_mem h3, ?_⟩, bto (below_alloc _ _) hb⟩
      simpa [List.getD, h3] using h2
    · obtain ⟨h1, h2⟩ := h
      refine ⟨.inr ⟨h1, fun s hs => ?_⟩, bto (below_alloc _ _) hb⟩
      obtain ⟨j, hj, rfl⟩ := List.getElem_of_mem hs
      have := h2 j (by omega)
      simpa [List.getD, hj] using this
end Go.Proofs.YtjhafnnfkaejgaaGreatDoor
