/- Payments in memory; what Check returns; how great values become. -/
import Derived.Test.YtmjglcgdcclinaaGreatDoorPw
import Derived.Test.YtmjglcgdcclinaaGreatDoorBh
import Derived.Test.YtmjglcgdcclinaaGreatDoorCd
namespace Go.Proofs.YtmjglcgdcclinaaGreatDoor
open Go.RowKit Num
/-- a call that returns v and keeps what lay, in every memory that keeps what lay in w -/
def RetB (w : World) (f : Nat) (args : Array Value) (v : Value) : Prop := ∀ w' : World, Below w.heap.size w w' → Calls Tryz.prog f args w' fun e w'' => e = .returned v ∧ Below w'.heap.size w' w''
theorem RetB.of {w w' : World} {f : Nat} {args : Array Value} {v : Value} (h : RetB w f args v) (_ : Glob w) (hb : Below w.heap.size w w') : Calls Tryz.prog f args w' fun e w'' => e = .returned v ∧ Below w'.heap.size w' w'' := h w' hb
theorem Ret.b {w : World} {f : Nat} {args : Array Value} {v : Value} (h : Ret f args v) (hG : Glob w) : RetB w f args v := fun _ hb => h.of hG hb
theorem RetB.below {w w1 : World} {f : Nat} {args : Array Value} {v : Value} (h : RetB w f args v) (hb : Below w.heap.size w w1) : RetB w1 f args v := fun _ hb' => h _ (bto hb hb')
/-- a payment -/
structure Pay where
  per : Int
  amt : List UInt8
/-- a slice of payments -/
def PayAt (w : World) (A : Option Addr) (ps : List Pay) : Prop := ∀ (i : Nat) (t : Pay), ps[i]? = some t → ∃ b o, A = some ⟨b, o, none⟩ ∧ b < w.heap.size ∧ w.cell? ⟨b, o + i * 2, none⟩ = some (.int .i64 t.per) ∧ w.cell? ⟨b, o + i * 2 + 1, none⟩ = some (.string ⟨t.amt.toArray⟩)
theorem PayAt.below {w w' : World} {A : Option Addr} {ps : List Pay} (h : PayAt w A ps) (hb : Below w.heap.size w w') : PayAt w' A ps := fun i t ht => by
  obtain ⟨b, o, rfl, h1, h2, h3⟩ := h i t ht
  exact ⟨b, o, rfl, Nat.lt_of_lt_of_le h1 hb.size, (hb.cell (p := ⟨b, o + i * 2, none⟩) h1).trans h2, (hb.cell (p := ⟨b, o + i * 2 + 1, none⟩) h1).trans h3⟩
def pzs (ps : List Pay) : List PZ := ps.map (fun p => (p.per, val p.amt))
def lessO : Option Int → Int → Bool
  | none, _ => false
  | some q, x => decide (x < q)
/-- what Check returns -/
def payL : Option Int → List Pay → Int
  | _, [] => 0
  | o, p :: r => if p.per < 0 ∨ 400 < p.per then 2 else if lessO o p.per = true then 8 else if ¬ p.amt = canon (val p.amt) then 1 else payL (some p.per) r
def payE (ps : List Pay) : Int := if ps.length = 0 then 11 else if 64 < ps.length then 4 else payL none ps
def prevO (ps : List Pay) : Nat → Option Int
  | 0 => none
  | k + 1 => (ps[k]?).map (·.per)
theorem payL_step {ps : List Pay} {k : Nat} {p : Pay} (h : ps[k]? = some p) : payL (prevO ps k) (ps.drop k) = if p.per < 0 ∨ 400 < p.per then 2 else if lessO (prevO ps k) p.per = true then 8 else if ¬ p.amt = canon (val p.amt) then 1 else payL (prevO ps (k + 1)) (ps.drop (k + 1)) := by
  obtain ⟨hk, rfl⟩ := List.getElem?_eq_some_iff.1 h
  have e : prevO ps (k + 1) = some ps[k].per := by show (ps[k]?).map (·.per) = _; rw [h]; rfl
  rw [List.drop_eq_getElem_cons hk, e]; rfl
theorem payL_ok : ∀ (ps : List Pay) (o : Option Int) (a : Int), payL o ps = 0 → (o = none → a = 0) → (∀ q, o = some q → a = q) → UpL a (pzs ps) ∧ ∀ p ∈ ps, 0 ≤ p.per ∧ p.per ≤ 400 ∧ p.amt = canon (val p.amt)
  | [], _, _, _, _, _ => ⟨trivial, fun _ h => by cases h⟩
  | p :: r, o, a, h, h1, h2 => by
    unfold payL at h
    by_cases g1 : p.per < 0 ∨ 400 < p.per
    · rw [if_pos g1] at h; cases h
    rw [if_neg g1] at h
    by_cases g2 : lessO o p.per = true
    · rw [if_pos g2] at h; cases h
    rw [if_neg g2] at h
    by_cases g3 : p.amt = canon (val p.amt)
    rotate_left
    · rw [if_pos g3] at h; cases h
    rw [if_neg (fun h => h g3)] at h
    obtain ⟨i1, i2⟩ := payL_ok r (some p.per) p.per h (fun h => by cases h) (fun q hq => by injection hq)
    refine ⟨⟨?_, i1⟩, fun q hq => ?_⟩
    · show a ≤ p.per
      cases o with
      | none => rw [h1 rfl]; omega
      | some q => rw [h2 q rfl]; simp [lessO] at g2; omega
    · rcases List.mem_cons.1 hq with rfl | hq
      · exact ⟨by omega, by omega, g3⟩
      · exact i2 q hq
theorem payE_ok {ps : List Pay} (h : payE ps = 0) : ps.length ≠ 0 ∧ ps.length ≤ 64 ∧ UpL 0 (pzs ps) ∧ ∀ p ∈ ps, 0 ≤ p.per ∧ p.per ≤ 400 ∧ p.amt = canon (val p.amt) := by
  unfold payE at h
  split at h
  · cases h
  split at h
  · cases h
  obtain ⟨i1, i2⟩ := payL_ok ps none 0 h (fun _ => rfl) (fun q hq => by cases hq)
  exact ⟨by assumption, by omega, i1, i2⟩
theorem hv_bd {x : Rat} {K M : Nat} (hx : Bd K x) (hM : 1 ≤ M) (E : Int) : ∀ (l : List PZ) (t : Rat) (a : Int) (T : Nat), UpL a l → Bd T t → (∀ p ∈ l, p.1 ≤ E ∧ p.2.natAbs < 10 ^ M) → Bd (T + K * (E - a).toNat + l.length * (M + 3)) (hv x t a l)
  | [], t, a, T, _, ht, _ => bd_mono ht (by omega)
  | p :: r, t, a, T, hu, ht, hp => by
    obtain ⟨p1, p2⟩ := hp p (List.mem_cons_self ..)
    have b1 := bd_pow hx (p.1 - a).toNat
    have b2 := bd_add (bd_mul ht b1) (bd_int p2 hM)
    have := hv_bd hx hM E r _ p.1 _ hu.2 b2 (fun q hq => hp q (List.mem_cons_of_mem _ hq))
    refine bd_mono this ?_
    have h1 := hu.1
    have e : (E - a).toNat = (E - p.1).toNat + (p.1 - a).toNat := by omega
    rw [e, Nat.mul_add K, List.length_cons, Nat.add_one_mul]
    generalize r.length * (M + 3) = X
    generalize K * (E - p.1).toNat = Y
    generalize K * (p.1 - a).toNat = Z
    omega
end Go.Proofs.YtmjglcgdcclinaaGreatDoor
