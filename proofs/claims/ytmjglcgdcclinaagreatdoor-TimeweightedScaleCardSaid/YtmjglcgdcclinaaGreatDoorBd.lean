/- Bd: awake great ret qlawb long powr -/
import Derived.Test.YtmjglcgdcclinaaGreatDoorBc
/- The chapter's examples: awake. -/
namespace Go.Proofs.YtmjglcgdcclinaaGreatDoor
open Go.RowKit Num

theorem aw1 (w : World) (hG : Glob w) : Calls Tryz.prog 98 #[.string ⟨#[49]⟩, .string ⟨#[50]⟩] w fun e w' => e = .returned (.tuple #[.agg #[.string ⟨#[49]⟩, .string ⟨#[50]⟩], .int .i64 0]) ∧ Below w.heap.size w w' := by
  have h := New_any [49] [50] w (by decide) (by decide) hG (by decide)
  have e1 : fN (Rat.divInt (val [49]) (val [50])) = [49] := by decide +kernel
  have e2 : fD (Rat.divInt (val [49]) (val [50])) = [50] := by decide +kernel
  rw [e1, e2] at h; exact h
theorem aw2 (w : World) (hG : Glob w) : Calls Tryz.prog 98 #[.string ⟨#[49]⟩, .string ⟨#[51]⟩] w fun e w' => e = .returned (.tuple #[.agg #[.string ⟨#[49]⟩, .string ⟨#[51]⟩], .int .i64 0]) ∧ Below w.heap.size w w' := by
  have h := New_any [49] [51] w (by decide) (by decide) hG (by decide)
  have e1 : fN (Rat.divInt (val [49]) (val [51])) = [49] := by decide +kernel
  have e2 : fD (Rat.divInt (val [49]) (val [51])) = [51] := by decide +kernel
  rw [e1, e2] at h; exact h
theorem aw3 (w : World) (hG : Glob w) : Calls Tryz.prog 46 #[.agg #[.string ⟨#[45, 50]⟩, .string ⟨#[51]⟩], .int .i64 (-3)] w fun e w' => e = .returned (.tuple #[.agg #[.string ⟨#[45, 50, 55]⟩, .string ⟨#[56]⟩], .int .i64 0]) ∧ Below w.heap.size w w' := by
  have h := Power_neg [45, 50] [51] 3 w (by decide) (by decide) (by decide) (by decide) (by decide +kernel) hG
  have e1 : fN ((fv [45, 50] [51]) ^ 3)⁻¹ = [45, 50, 55] := by decide +kernel
  have e2 : fD ((fv [45, 50] [51]) ^ 3)⁻¹ = [56] := by decide +kernel
  rw [e1, e2] at h; exact h
theorem aw4 (w : World) (hG : Glob w) : Calls Tryz.prog 82 #[.agg #[.string ⟨#[49]⟩, .string ⟨#[50]⟩], .agg #[.string ⟨#[49]⟩, .string ⟨#[51]⟩]] w fun e w' => e = .returned (.agg #[.string ⟨#[53]⟩, .string ⟨#[54]⟩]) ∧ Below w.heap.size w w' := by
  have h := Add_any [49] [50] [49] [51] w (by decide) (by decide) (by decide) (by decide) hG
  have e1 : fN (fv [49] [50] + fv [49] [51]) = [53] := by decide +kernel
  have e2 : fD (fv [49] [50] + fv [49] [51]) = [54] := by decide +kernel
  rw [e1, e2] at h; exact h
theorem aw7 (w : World) (hG : Glob w) : Calls Tryz.prog 107 #[.agg #[.string ⟨#[50]⟩, .string ⟨#[52]⟩]] w fun e w' => e = .returned (.int .i64 1) ∧ Below w.heap.size w w' := by
  have h := Check_any [50] [52] w (by decide) (by decide) hG
  have e1 : ¬ ([50] = fN (fv [50] [52]) ∧ [52] = fD (fv [50] [52])) := by decide +kernel
  rw [if_neg e1] at h; exact h

end Go.Proofs.YtmjglcgdcclinaaGreatDoor
/- trancheref02.Great. -/
namespace Go.Proofs.YtmjglcgdcclinaaGreatDoor
open Go.RowKit Num

set_option maxHeartbeats 1000000 in
set_option maxRecDepth 100000 in
theorem great_any (g n c : Nat) (cs : Nat → List UInt8) (w : World) (hn : n ≤ 1000) (h : ∀ j, j < n * 2 → w.cell? ⟨g, j, none⟩ = some (.string ⟨(cs j).toArray⟩)) :
    Calls Tryz.prog 42 #[.slice (some ⟨g, 0, none⟩) n c] w fun e w' => ((e = .returned (.bool true) ∧ ∃ j, j < n * 2 ∧ 60 < (cs j).length) ∨ (e = .returned (.bool false) ∧ ∀ j, j < n * 2 → (cs j).length ≤ 60)) ∧ Below w.heap.size w w' := by
  go_enter Tryz.func42, Tryz.ntmps42
  go_wp2_with fail
  go_loopw [3] (fun iv wr => ∃ k : Nat, k ≤ n ∧ iv = .int .i64 (k : Int) ∧ Hid (∀ j, j < k * 2 → (cs j).length ≤ 60) ∧ wr = w) (fun iv _ => n - (intOf iv).toNat)
  case atStart => exact ⟨0, Nat.zero_le _, rfl, fun j hj => by omega, rfl⟩
  case round =>
    obtain ⟨k, hk, rfl, HK, rfl⟩ := hrel
    by_cases hkn : k < n
    · have h1 := h (k * 2) (by omega)
      have h2 := h (k * 2 + 1) (by omega)
      obtain ⟨s1, hs1⟩ : ∃ s1, s1 = cs (k * 2) := ⟨_, rfl⟩
      obtain ⟨s2, hs2⟩ : ∃ s2, s2 = cs (k * 2 + 1) := ⟨_, rfl⟩
      rw [← hs1] at h1
      rw [← hs2] at h2
      have H1 := Lib.hid hs1
      have H2 := Lib.hid hs2
      have H := Lib.hid h
      clear h hs1 hs2
      by_cases g1 : 60 < s1.length
      · go_wp2
        go_ret
        exact ⟨.inl ⟨rfl, k * 2, by omega, by rw [← H1.out]; exact g1⟩, Below.refl _ _⟩
      · by_cases g2 : 60 < s2.length
        · go_wp2
          go_ret
          exact ⟨.inl ⟨rfl, k * 2 + 1, by omega, by rw [← H2.out]; exact g2⟩, Below.refl _ _⟩
        · go_wp2
          go_roundw
          case rel =>
            refine ⟨k + 1, by omega, by go_num, fun j hj => ?_, trivial⟩
            rcases Nat.lt_or_ge j (k * 2) with h5 | h5
            · exact HK.out j h5
            · have : j = k * 2 ∨ j = k * 2 + 1 := by omega
              rcases this with rfl | rfl
              · rw [← H1.out]; omega
              · rw [← H2.out]; omega
          case measure => simp [intOf]; omega
    · obtain rfl : k = n := by omega
      go_wp2
      go_ret
      exact ⟨.inr ⟨rfl, HK.out⟩, Below.refl _ _⟩
end Go.Proofs.YtmjglcgdcclinaaGreatDoor
/- The contracts of package fraction over values: a fraction's two strings with a value. -/
namespace Go.Proofs.YtmjglcgdcclinaaGreatDoor
open Go.RowKit Num

/-- two strings that make a fraction with the value q, not too long -/
structure IsQ (l l' : List UInt8) (q : Rat) : Prop where
  num : l.length ≤ 100000
  den : l'.length ≤ 100000
  eq : fv l l' = q
theorem isq_raw {l l' : List UInt8} {k : Nat} (h : l.length ≤ k) (h' : l'.length ≤ k) (hk : k ≤ 100000) : IsQ l l' (fv l l') := ⟨Nat.le_trans h hk, Nat.le_trans h' hk, rfl⟩
theorem isq_fr {q : Rat} {k : Nat} (h : Bd k q) (hk : k ≤ 99999) : IsQ (fN q) (fD q) q := ⟨Nat.le_trans (bd_len h).1 (by omega), Nat.le_trans (bd_len h).2 (by omega), fv_frac q⟩
theorem bd_zero : Bd 1 (0 : Rat) := ⟨by decide, by decide⟩
theorem isq_zero : IsQ [] [] 0 := ⟨by decide, by decide, by decide +kernel⟩
section
variable {l l' k k' : List UInt8} {p q r : Rat}
theorem rAdd (h : IsQ l l' p) (h' : IsQ k k' q) (e : p + q = r) : Ret 82 #[(Value.agg #[Value.string ⟨List.toArray l⟩, Value.string ⟨List.toArray l'⟩]), (Value.agg #[Value.string ⟨List.toArray k⟩, Value.string ⟨List.toArray k'⟩])] (Value.agg #[Value.string ⟨List.toArray (fN r)⟩, Value.string ⟨List.toArray (fD r)⟩]) := fun w hG => by
  have := Add_any l l' k k' w h.num h.den h'.num h'.den hG
  rwa [h.eq, h'.eq, e] at this
theorem rSub (h : IsQ l l' p) (h' : IsQ k k' q) (e : p - q = r) : Ret 35 #[(Value.agg #[Value.string ⟨List.toArray l⟩, Value.string ⟨List.toArray l'⟩]), (Value.agg #[Value.string ⟨List.toArray k⟩, Value.string ⟨List.toArray k'⟩])] (Value.agg #[Value.string ⟨List.toArray (fN r)⟩, Value.string ⟨List.toArray (fD r)⟩]) := fun w hG => by
  have := Sub_any l l' k k' w h.num h.den h'.num h'.den hG
  rwa [h.eq, h'.eq, e] at this
theorem rMul (h : IsQ l l' p) (h' : IsQ k k' q) (e : p * q = r) : Ret 56 #[(Value.agg #[Value.string ⟨List.toArray l⟩, Value.string ⟨List.toArray l'⟩]), (Value.agg #[Value.string ⟨List.toArray k⟩, Value.string ⟨List.toArray k'⟩])] (Value.agg #[Value.string ⟨List.toArray (fN r)⟩, Value.string ⟨List.toArray (fD r)⟩]) := fun w hG => by
  have := Mul_any l l' k k' w h.num h.den h'.num h'.den hG
  rwa [h.eq, h'.eq, e] at this
theorem fv_zero_iff : fv l l' = 0 ↔ val l = 0 := by
  unfold fv
  have := den1_ne (val l')
  constructor
  · intro h
    have h1 := Rat.divInt_eq_divInt_iff (n₁ := val l) (n₂ := 0) this this
    rw [Rat.zero_divInt, h, Int.zero_mul] at h1
    have h2 := h1.1 rfl
    rcases Int.mul_eq_zero.1 h2 with h3 | h3
    · exact h3
    · exact absurd h3 this
  · intro h; rw [h, Rat.zero_divInt]
theorem rQuo (h : IsQ l l' p) (h' : IsQ k k' q) (h0 : q ≠ 0) (e : p / q = r) : Ret 49 #[(Value.agg #[Value.string ⟨List.toArray l⟩, Value.string ⟨List.toArray l'⟩]), (Value.agg #[Value.string ⟨List.toArray k⟩, Value.string ⟨List.toArray k'⟩])] (.tuple #[(Value.agg #[Value.string ⟨List.toArray (fN r)⟩, Value.string ⟨List.toArray (fD r)⟩]), .int .i64 0]) := fun w hG => by
  have := Quo_any l l' k k' w h.num h.den h'.num h'.den hG (fun e0 => h0 (by rw [← h'.eq]; exact fv_zero_iff.2 e0))
  rwa [h.eq, h'.eq, e] at this
theorem rQuo0 (h' : IsQ k k' q) (h0 : q = 0) : Ret 49 #[(Value.agg #[Value.string ⟨List.toArray l⟩, Value.string ⟨List.toArray l'⟩]), (Value.agg #[Value.string ⟨List.toArray k⟩, Value.string ⟨List.toArray k'⟩])] (.tuple #[.agg #[.string ⟨#[]⟩, .string ⟨#[]⟩], .int .i64 10]) := fun w _ =>
  Quo_zero l l' k k' w h'.num (fv_zero_iff.1 (h'.eq.trans h0))
theorem rCompare (h : IsQ l l' p) (h' : IsQ k k' q) {c : Int} (e : cmpQ p q = c) : Ret 48 #[(Value.agg #[Value.string ⟨List.toArray l⟩, Value.string ⟨List.toArray l'⟩]), (Value.agg #[Value.string ⟨List.toArray k⟩, Value.string ⟨List.toArray k'⟩])] (.int .i64 c) := fun w hG => by
  have := Compare_any l l' k k' w h.num h.den h'.num h'.den hG
  rwa [h.eq, h'.eq, e] at this
theorem rOf (hl : l.length ≤ 1000000) {z : Int} (e : val l = z) : Ret 37 #[.string ⟨l.toArray⟩] (Value.agg #[Value.string ⟨List.toArray (fN ((z : Rat)))⟩, Value.string ⟨List.toArray (fD ((z : Rat)))⟩]) := fun w hG => by
  have := Of_any l w hl hG
  rwa [e] at this
theorem rParts (h : IsQ l l' p) : Ret 112 #[(Value.agg #[Value.string ⟨List.toArray l⟩, Value.string ⟨List.toArray l'⟩])] (.tuple #[.string ⟨(fN p).toArray⟩, .string ⟨(canon (p.den : Int)).toArray⟩]) := fun w hG => by
  have := Parts_any l l' w (Nat.le_trans h.num (by decide)) (Nat.le_trans h.den (by decide)) hG
  rwa [h.eq] at this
theorem rNew (hl : l.length ≤ 1000000) (hl' : l'.length ≤ 1000000) (h0 : val l' ≠ 0) (e : Rat.divInt (val l) (val l') = r) : Ret 98 #[.string ⟨l.toArray⟩, .string ⟨l'.toArray⟩] (.tuple #[(Value.agg #[Value.string ⟨List.toArray (fN r)⟩, Value.string ⟨List.toArray (fD r)⟩]), .int .i64 0]) := fun w hG => by
  have := New_any l l' w hl hl' hG h0
  rwa [e] at this
theorem rNew0 (hl' : l'.length ≤ 1000000) (h0 : val l' = 0) : Ret 98 #[.string ⟨l.toArray⟩, .string ⟨l'.toArray⟩] (.tuple #[.agg #[.string ⟨#[]⟩, .string ⟨#[]⟩], .int .i64 10]) := fun w _ => New_zero l l' w hl' h0
theorem rCheck (h : IsQ l l' p) {c : Int} (e : (if l = fN p ∧ l' = fD p then 0 else 1) = c) : Ret 107 #[(Value.agg #[Value.string ⟨List.toArray l⟩, Value.string ⟨List.toArray l'⟩])] (.int .i64 c) := fun w hG => by
  have := Check_any l l' w h.num h.den hG
  rwa [h.eq, e] at this
theorem riAdd (hl : l.length ≤ 100000000) (hl' : l'.length ≤ 100000000) {z : Int} (e : val l + val l' = z) : Ret 158 #[.string ⟨l.toArray⟩, .string ⟨l'.toArray⟩] (.string ⟨(canon z).toArray⟩) := fun w hG => by
  have := iadd_any l l' w hl hl' hG
  rwa [e] at this
theorem riCheck (hl : l.length ≤ 1000000) {c : Int} (e : (if l = canon (val l) then 0 else 1) = c) : Ret 90 #[.string ⟨l.toArray⟩] (.int .i64 c) := fun w _ => by
  have := icheck_any l w hl
  rwa [e] at this
theorem riGcd (hl : l.length ≤ 100000000) (hl' : l'.length ≤ 100000000) {z : Int} (e : (Int.gcd (val l) (val l') : Int) = z) : Ret 197 #[.string ⟨l.toArray⟩, .string ⟨l'.toArray⟩] (.string ⟨(canon z).toArray⟩) := fun w hG => by
  have := gcd_any l l' w hl hl' hG
  rwa [e] at this
theorem riCompare (hl : l.length ≤ 100000000) (hl' : l'.length ≤ 100000000) {c : Int} (e : cmpZ (val l) (val l') = c) : Ret 92 #[.string ⟨l.toArray⟩, .string ⟨l'.toArray⟩] (.int .i64 c) := fun w _ => by
  have := icompare_any l l' w hl hl'
  rwa [e] at this
end

/-- Great, of a slice just made -/
theorem great_new (w : World) (ls : List (List UInt8)) (n c : Nat) (t : TypeId) (hl : ls.length = n * 2) (hn : n ≤ 1000) :
    Calls Tryz.prog 42 #[.slice (some ⟨w.heap.size, 0, none⟩) n c] (w.alloc (.cells (ls.map fun s => Value.string ⟨s.toArray⟩).toArray t)) fun e w' =>
      ((e = .returned (.bool true) ∧ ∃ s ∈ ls, 60 < s.length) ∨ (e = .returned (.bool false) ∧ ∀ s ∈ ls, s.length ≤ 60)) ∧ Below w.heap.size w w' := by
  refine (great_any w.heap.size n c (fun j => ls.getD j []) _ hn ?_).mono ?_
  · intro j hj
    have h1 : j < ls.length := by omega
    simp [go_sem, h1]
  · rintro e w' ⟨h | h, hb⟩
    · obtain ⟨h1, j, hj, h2⟩ := h
      have h3 : j < ls.length := by omega
      refine ⟨.inl ⟨h1, ls[j], List.getElem_mem h3, ?_⟩, bto (below_alloc _ _) hb⟩
      simpa [List.getD, h3] using h2
    · obtain ⟨h1, h2⟩ := h
      refine ⟨.inr ⟨h1, fun s hs => ?_⟩, bto (below_alloc _ _) hb⟩
      obtain ⟨j, hj, rfl⟩ := List.getElem_of_mem hs
      have := h2 j (by omega)
      simpa [List.getD, hj] using this
end Go.Proofs.YtmjglcgdcclinaaGreatDoor
/- Plain: the order of rational numbers, more. -/
namespace Go.Proofs.YtmjglcgdcclinaaGreatDoor
open Num

theorem cmpQ_if (p q : Rat) : cmpQ p q = if p < q then -1 else if q < p then 1 else 0 := by
  have h1 := cmpQ_neg p q
  have h2 := cmpQ_neg q p
  have h3 := cmpQ_swap p q
  have h4 := cmpQ_bound p q
  split
  · have := h1.2 (by assumption); omega
  · split
    · have := h2.2 (by assumption); omega
    · have a := mt h1.1 (by assumption)
      have b := mt h2.1 (by assumption)
      omega
theorem cmpQ_congr {p q r s : Rat} (h1 : p < q ↔ r < s) (h2 : q < p ↔ s < r) : cmpQ p q = cmpQ r s := by
  rw [cmpQ_if, cmpQ_if]
  simp only [h1, h2]
theorem cmpQ_add (p q r : Rat) : cmpQ (p + r) (q + r) = cmpQ p q := cmpQ_congr Rat.add_lt_add_right Rat.add_lt_add_right
theorem cmpQ_mul {p q r : Rat} (h : 0 < r) : cmpQ (p * r) (q * r) = cmpQ p q := cmpQ_congr (Rat.mul_lt_mul_right h) (Rat.mul_lt_mul_right h)
theorem cmpQ_pos {p : Rat} : 0 < cmpQ p 0 ↔ 0 < p := by
  have := cmpQ_neg 0 p
  rw [← this, cmpQ_swap p 0]; omega
theorem cmpQ_trans {p q r : Rat} (h1 : cmpQ p q ≤ 0) (h2 : cmpQ q r ≤ 0) : cmpQ p r = min (cmpQ p q) (cmpQ q r) := by
  rw [cmpQ_le] at h1 h2
  have e1 := cmpQ_if p q
  have e2 := cmpQ_if q r
  have e3 := cmpQ_if p r
  have n1 : ¬ q < p := Rat.not_lt.2 h1
  have n2 : ¬ r < q := Rat.not_lt.2 h2
  have n3 : ¬ r < p := Rat.not_lt.2 (Rat.le_trans h1 h2)
  rw [if_neg n1] at e1
  rw [if_neg n2] at e2
  rw [if_neg n3] at e3
  by_cases a : p < q
  · have c : p < r := by
      rcases Rat.le_iff_lt_or_eq.1 (Rat.le_trans h1 h2) with c | c
      · exact c
      · subst c; exact absurd a n2
    rw [if_pos a] at e1; rw [if_pos c] at e3
    split at e2 <;> omega
  · have d : p = q := Rat.le_antisymm h1 (Rat.not_lt.1 a)
    subst d
    rw [if_neg a] at e1
    rw [e1, e2]
    split <;> omega
theorem cmpZ_zero (z : Int) : cmpZ z 0 = if z < 0 then -1 else if 0 < z then 1 else 0 := rfl
/-- the shape of a canonical text, and the sign -/
theorem canon_shape (z : Int) : (canon z = [] ∧ cmpZ z 0 = 0) ∨ (∃ c t, canon z = c :: t ∧ ((c.toNat : Int) == 45) = false ∧ cmpZ z 0 = 1) ∨ (∃ t, canon z = 45 :: t ∧ cmpZ z 0 = -1) := by
  rw [cmpZ_zero]
  rcases Int.lt_trichotomy z 0 with h | h | h
  · exact .inr (.inr ⟨dec z.natAbs, by unfold canon; rw [if_pos h], by rw [if_pos h]⟩)
  · subst h; exact .inl ⟨rfl, rfl⟩
  · refine .inr (.inl ?_)
    rw [if_neg (by omega), if_pos h]
    cases hc : canon z with
    | nil => have := (canon_eq_nil z).1 hc; omega
    | cons c t =>
      refine ⟨c, t, rfl, ?_, rfl⟩
      have hd : isDig c = true := by
        unfold canon at hc
        rw [if_neg (by omega)] at hc
        exact List.all_eq_true.1 (dec_digs z.natAbs) c (by rw [hc]; exact List.mem_cons_self)
      rw [beq_eq_false_iff_ne]
      intro e
      have e' : c.toNat = 45 := by omega
      simp [isDig, e'] at hd
end Go.Proofs.YtmjglcgdcclinaaGreatDoor
/- trancheref02.Long. -/
namespace Go.Proofs.YtmjglcgdcclinaaGreatDoor
open Go.RowKit Num

end Go.Proofs.YtmjglcgdcclinaaGreatDoor
/- Power, for every exponent. -/
namespace Go.Proofs.YtmjglcgdcclinaaGreatDoor
open Go.RowKit Num

theorem tmod9 (m : Int) : -8 ≤ m.tmod 9 ∧ m.tmod 9 ≤ 8 := by
  have h1 := Int.tmod_lt_of_pos m (b := 9) (by decide)
  have h2 := Int.lt_tmod_of_pos m (b := 9) (by decide)
  omega
theorem rPow {l l' : List UInt8} (h : l.length ≤ 1000) (h' : l'.length ≤ 1000) {q r : Rat} (hq : fv l l' = q) (n : Int) (h1 : -400 ≤ n) (h2 : n ≤ 400) (h0 : 0 ≤ n ∨ q ≠ 0) (e : q ^ n = r) :
    Ret 46 #[(Value.agg #[Value.string ⟨List.toArray l⟩, Value.string ⟨List.toArray l'⟩]), .int .i64 n] (.tuple #[(Value.agg #[Value.string ⟨List.toArray (fN r)⟩, Value.string ⟨List.toArray (fD r)⟩]), .int .i64 0]) := fun w hG => by
  subst hq e
  rcases Int.lt_or_le n 0 with hn | hn
  · obtain ⟨m, rfl⟩ : ∃ m : Nat, n = -(m : Int) := ⟨n.natAbs, by omega⟩
    have hq0 : fv l l' ≠ 0 := by
      rcases h0 with h0 | h0
      · omega
      · exact h0
    have := Power_neg l l' m w h h' (by omega) (by omega) hq0 hG
    rw [Rat.zpow_neg, Rat.zpow_natCast]
    exact this
  · obtain ⟨m, rfl⟩ : ∃ m : Nat, n = (m : Int) := ⟨n.natAbs, by omega⟩
    have := Power_pos l l' m w h h' (by omega) hG
    rw [Rat.zpow_natCast]
    exact this
theorem rPow0 {l l' : List UInt8} (h : l.length ≤ 1000) (h' : l'.length ≤ 1000) (hq : fv l l' = 0) (n : Int) (h1 : -400 ≤ n) (h2 : n < 0) :
    Ret 46 #[(Value.agg #[Value.string ⟨List.toArray l⟩, Value.string ⟨List.toArray l'⟩]), .int .i64 n] (.tuple #[.agg #[.string ⟨#[]⟩, .string ⟨#[]⟩], .int .i64 10]) := fun w hG => Power_zero l l' n w h h' h1 h2 hq hG
theorem zpow_add' (q : Rat) (i k : Int) (h : (0 ≤ i ∧ 0 ≤ k) ∨ q ≠ 0) : q ^ i * q ^ k = q ^ (i + k) := by
  rcases h with ⟨h1, h2⟩ | h
  · obtain ⟨a, rfl⟩ : ∃ a : Nat, i = (a : Int) := ⟨i.natAbs, by omega⟩
    obtain ⟨b, rfl⟩ : ∃ b : Nat, k = (b : Int) := ⟨k.natAbs, by omega⟩
    rw [← Int.natCast_add, Rat.zpow_natCast, Rat.zpow_natCast, Rat.zpow_natCast]
    induction b with
    | zero => rw [Rat.pow_zero, Rat.mul_one, Nat.add_zero]
    | succ b ih => rw [← Nat.add_assoc, Rat.pow_succ, Rat.pow_succ, ← Rat.mul_assoc, ih (by omega)]
  · exact (Rat.zpow_add h i k).symm
theorem bd_inv0 {k : Nat} {q : Rat} (h : Bd k q) (hk : 1 ≤ k) : Bd k q⁻¹ := by
  by_cases h0 : q = 0
  · subst h0; rw [Rat.inv_zero]; exact bd_mono bd_zero hk
  · exact bd_inv h h0
theorem bd_pow {k : Nat} {q : Rat} (h : Bd k q) (n : Nat) : Bd (k * n + 1) (q ^ n) := by
  induction n with
  | zero => rw [Rat.pow_zero]; exact bd_mono (show Bd 1 1 from ⟨by decide, by decide⟩) (by omega)
  | succ n ih => rw [Rat.pow_succ]; exact bd_mono (bd_mul ih h) (by rw [Nat.mul_add]; omega)
theorem bd_zpow {k m : Nat} {q : Rat} (h : Bd k q) (i : Int) (hi : i.natAbs ≤ m) : Bd (k * m + 1) (q ^ i) := by
  have hm : k * i.natAbs ≤ k * m := Nat.mul_le_mul_left k hi
  rcases Int.lt_or_le i 0 with hn | hn
  · obtain ⟨a, rfl⟩ : ∃ a : Nat, i = -(a : Int) := ⟨i.natAbs, by omega⟩
    rw [Rat.zpow_neg, Rat.zpow_natCast]
    exact bd_mono (bd_inv0 (bd_pow h a) (by omega)) (by simp at hm ⊢; exact hm)
  · obtain ⟨a, rfl⟩ : ∃ a : Nat, i = (a : Int) := ⟨i.natAbs, by omega⟩
    rw [Rat.zpow_natCast]
    exact bd_mono (bd_pow h a) (by simp at hm ⊢; exact hm)
end Go.Proofs.YtmjglcgdcclinaaGreatDoor
