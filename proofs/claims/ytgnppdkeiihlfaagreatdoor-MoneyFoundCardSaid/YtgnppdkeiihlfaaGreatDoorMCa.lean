/- Ca: jmag rcut rdig refa refb refc refd refe reff refg refh -/
import Derived.Test.YtgnppdkeiihlfaaGreatDoorMBk
import Derived.Laws.Cover1
import Derived.IntWalk
/- Rows of int, as XMag has them of uint64. -/
namespace Go.Proofs.YtgnppdkeiihlfaaGreatDoor
open Go.RowKit Num

abbrev J (l : List Nat) : List Value := l.map fun (x : Nat) => Value.int .i64 (x : Int)

section
variable {w w' : World} {base n c : Nat} {A : Option Addr} {l : List Nat} {e : TypeId}
end

/-! A row of numbers that is known whole. -/
def JRow (w : World) (g : Nat) (xs : List Nat) : Prop := w.heap[g]? = some (.cells (J xs).toArray 3 (0, 0))
section
variable {w w' : World} {g : Nat} {xs : List Nat}
theorem JRow.lt (h : JRow w g xs) : g < w.heap.size := (Array.getElem?_eq_some_iff.1 h).1
theorem JRow.cell (h : JRow w g xs) {k x : Nat} (hx : xs[k]? = some x) : w.cell? ⟨g, k, none⟩ = some (.int .i64 (x : Int)) := by
  rw [blk_cell h k]; simp [hx]
theorem JRow.frozen (h : JRow w g xs) (k : Nat) : w.frozen? ⟨g, k, none⟩ = false := blk_frozen h k
theorem JRow.set_ (h : JRow w g xs) (k y : Nat) : JRow (w.setCell ⟨g, k, none⟩ (.int .i64 (y : Int))) g (xs.set k y) := by
  unfold JRow at h ⊢
  simp [World.setCell, Array.getElem?_modify, h, List.map_set]
theorem JRow.setI (h : JRow w g xs) (k y : Nat) {z : Int} (hz : z = y) : JRow (w.setCell ⟨g, k, none⟩ (.int .i64 z)) g (xs.set k y) := by
  subst hz; exact h.set_ k y
theorem JRow.drewN (h : JRow w g xs) (n : Nat) : JRow (w.drewN n) g xs := h
theorem JRow.drew (h : JRow w g xs) : JRow w.drew g xs := h
theorem JRow.alloc (h : JRow w g xs) (o : Obj) : JRow (w.alloc o) g xs := (Below.heap_alloc w o g h.lt).trans h
theorem JRow.below (h : JRow w g xs) (hb : Below w.heap.size w w') : JRow w' g xs := (hb.block g h.lt).trans h
theorem JRow.own (h : JRow w g xs) {base n : Nat} (hb : base ≤ g) (hn : n ≤ xs.length) (hm : xs.length ≤ maxLen) : w.ownsRow base 3 1 (.slice (some ⟨g, 0, none⟩) n xs.length) n (J (xs.take n)) := by
  refine ⟨by simp; omega, .inr ⟨g, xs.length, (J xs).toArray, rfl, hb, h, hn, hm, by simp, ?_⟩⟩
  simp [List.map_take]
end
end Go.Proofs.YtgnppdkeiihlfaaGreatDoor
/- trancheref01: trim, order, group. -/
namespace Go.Proofs.YtgnppdkeiihlfaaGreatDoor
open Go.RowKit Num

end Go.Proofs.YtgnppdkeiihlfaaGreatDoor
/- trancheref01: digits, Canonical, Check, Print, Parse. -/
namespace Go.Proofs.YtgnppdkeiihlfaaGreatDoor
open Go.RowKit Num

structure IsOk (l r : List UInt8) (neg : Bool) : Prop where
  rest : Num.rest l = r
  neg' : isNeg l = neg
  ok : r.all isDig = true
theorem sig_head {x : UInt8} {t : List UInt8} (h : x ≠ 48) : sig (x :: t) = x :: t := by unfold sig; rw [List.dropWhile_cons_of_neg (by simpa using h)]
theorem sig_zero {x : UInt8} {t : List UInt8} (h : x.toNat = 48) : sig (x :: t) = sig t := by
  have : x = 48 := UInt8.toNat_inj.1 h
  subst this
  unfold sig; rw [List.dropWhile_cons_of_pos (by decide)]
theorem sig_done {t : List UInt8} (h : t = [] ∨ ∃ x t', t = x :: t' ∧ x ≠ 48) : sig t = t := by
  rcases h with rfl | ⟨x, t', rfl, h⟩
  · rfl
  · exact sig_head h
theorem IsOk.dig {l r t : List UInt8} {neg : Bool} (h : IsOk l r neg) (hs : sig t = sig r) (ht : t = [] ∨ t.headD 0 ≠ 48) : digs l = t := by
  rw [digs_ok (by rw [h.rest]; exact h.ok), h.rest, ← hs]
  refine sig_done ?_
  cases t with
  | nil => exact .inl rfl
  | cons x t => exact .inr ⟨x, t, rfl, by rcases ht with ht | ht; · cases ht
                                          · exact ht⟩
theorem IsOk.neg {l r t : List UInt8} {neg : Bool} (h : IsOk l r neg) (hs : sig t = sig r) (ht : t = [] ∨ t.headD 0 ≠ 48) : negB l = (neg && !t.isEmpty) := by
  have := h.dig hs ht
  rw [negB_ok (by rw [h.rest]; exact h.ok), h.neg', ← digs_ok (by rw [h.rest]; exact h.ok), this]
end Go.Proofs.YtgnppdkeiihlfaaGreatDoor
/- trancheref01: Canonical, Compare, Neg, Print, Parse, Check. -/
namespace Go.Proofs.YtgnppdkeiihlfaaGreatDoor
open Go.RowKit Num

theorem dec_len_le {m : Nat} (h : m ≠ 0) : 10 ^ ((dec m).length - 1) ≤ m := by
  cases hd : dec m with
  | nil => have := nat_dec m; rw [hd] at this; simp [nat_nil] at this; omega
  | cons c t =>
    have h1 := nat_dec m
    rw [hd, nat_cons] at h1
    have h2 := sig_dec m
    rw [hd] at h2
    have hc : c ≠ 48 := fun e => by
      subst e
      rw [sig_zero rfl] at h2
      have h3 : (sig t).length ≤ t.length := by unfold sig; exact (List.dropWhile_sublist _).length_le
      rw [h2, List.length_cons] at h3; omega
    have h4 := List.all_eq_true.1 (dec_digs m) c (by rw [hd]; exact List.mem_cons_self)
    have h5 : 1 ≤ c.toNat - 48 := by
      simp [isDig] at h4
      have : c.toNat ≠ 48 := fun e => hc (UInt8.toNat_inj.1 e)
      omega
    simp only [List.length_cons, Nat.add_sub_cancel]
    have := Nat.mul_le_mul_right (10 ^ t.length) h5
    omega
section
variable {l l' : List UInt8}
end
end Go.Proofs.YtgnppdkeiihlfaaGreatDoor
/- trancheref01: Neg, Print, Parse, Of, short. -/
namespace Go.Proofs.YtgnppdkeiihlfaaGreatDoor
open Go.RowKit Num

/-! Of. -/
theorem tdiv_abs (m : Int) : (m.tdiv 10).natAbs = m.natAbs / 10 := by
  rw [Int.natAbs_tdiv]; rfl
def IsTail (n : Int) (m : Int) (t : List UInt8) : Prop := dec n.natAbs = dec m.natAbs ++ t ∧ t.length ≤ 20 ∧ m.natAbs * 10 ^ t.length ≤ n.natAbs ∧ (0 ≤ n → 0 ≤ m) ∧ (n < 0 → m ≤ 0)

theorem dg_mod (k : Nat) : dg (k % 10) = dg k := by unfold dg; rw [Nat.mod_mod]
theorem IsTail.step {n m : Int} {t : List UInt8} (h : IsTail n m t) (hm : m ≠ 0) (hn : n.natAbs ≤ 9223372036854775808) : IsTail n (m.tdiv 10) (dg (m.natAbs % 10) :: t) ∧ t.length ≤ 18 := by
  obtain ⟨a, b, c, d, e⟩ := h
  have hp : 10 ^ t.length ≤ m.natAbs * 10 ^ t.length := Nat.le_mul_of_pos_left _ (by omega)
  have hl : t.length ≤ 18 := by
    rcases Nat.lt_or_ge 18 t.length with h' | h'
    · have : 10 ^ 19 ≤ 10 ^ t.length := Nat.pow_le_pow_right (by decide) h'
      have : (10 : Nat) ^ 19 = 10000000000000000000 := by decide
      omega
    · exact h'
  refine ⟨⟨?_, ?_, ?_, ?_, ?_⟩, hl⟩
  · rw [tdiv_abs, a, dec_pos m.natAbs (by omega), dg_mod]; simp
  · simp; omega
  · rw [tdiv_abs, List.length_cons, Nat.pow_succ, Nat.mul_comm (10 ^ t.length) 10, ← Nat.mul_assoc]
    have : m.natAbs / 10 * 10 ≤ m.natAbs := Nat.div_mul_le_self _ _
    exact Nat.le_trans (Nat.mul_le_mul_right _ this) c
  · intro h; have := d h; exact Int.tdiv_nonneg this (by decide)
  · intro h; have := e h
    have h1 : (-m).tdiv 10 = -(m.tdiv 10) := Int.neg_tdiv m 10
    have h2 : 0 ≤ (-m).tdiv 10 := Int.tdiv_nonneg (by omega) (by decide)
    omega
end Go.Proofs.YtgnppdkeiihlfaaGreatDoor
/- trancheref01: short. -/
namespace Go.Proofs.YtgnppdkeiihlfaaGreatDoor
open Go.RowKit Num

end Go.Proofs.YtgnppdkeiihlfaaGreatDoor
/- trancheref01: read. -/
namespace Go.Proofs.YtgnppdkeiihlfaaGreatDoor
open Go.RowKit Num

/-- a magnitude of value m as a row of ints -/
def JMag (w : World) (base : Nat) (v : Value) (m : Nat) : Prop := w.ownsRow base 3 1 v (grp m).length (J (grp m))
theorem JMag.form {w : World} {base : Nat} {v : Value} {m : Nat} (h : JMag w base v m) : ∃ A c, v = .slice A (grp m).length c := own_form h
theorem JMag.below {w w' : World} {base : Nat} {v : Value} {m : Nat} (h : JMag w base v m) (hb : Below w.heap.size w w') : JMag w' base v m := own_below h hb
theorem JMag.base {w : World} {base base' : Nat} {v : Value} {m : Nat} (h : JMag w base v m) (hb : base' ≤ base) : JMag w base' v m := own_base h hb
end Go.Proofs.YtgnppdkeiihlfaaGreatDoor
/- trancheref01: write. -/
namespace Go.Proofs.YtgnppdkeiihlfaaGreatDoor
open Go.RowKit Num

/-- a text of digits with a value -/
structure Dig (t : List UInt8) (n len : Nat) : Prop where
  dig : t.all isDig = true
  nat : nat t = n
  len : t.length = len
theorem Dig.cons {t : List UInt8} {n len : Nat} (h : Dig t n len) (k : Nat) : Dig (dg k :: t) (k % 10 * 10 ^ len + n) (len + 1) := by
  refine ⟨by rw [List.all_cons, isDig_dg, h.dig]; rfl, ?_, by rw [List.length_cons, h.len]⟩
  rw [nat_cons, h.nat, h.len, dg_toNat]
  congr 2; omega
/-- the number that is left behind k digits of N, over the text t0 -/
def Down (N k : Nat) (n0 len0 : Nat) (z : Int) (t : List UInt8) : Prop := z = ((N / 10 ^ k : Nat) : Int) ∧ Dig t (N % 10 ^ k * 10 ^ len0 + n0) (len0 + k)
theorem Down.start {N n0 len0 : Nat} {t : List UInt8} (h : Dig t n0 len0) : Down N 0 n0 len0 (N : Int) t := ⟨by simp, by simpa [Nat.mod_one] using h⟩
theorem Down.step {N k n0 len0 : Nat} {z : Int} {t : List UInt8} (h : Down N k n0 len0 z t) : Down N (k + 1) n0 len0 (z.tdiv 10) (dg (z.natAbs % 10) :: t) := by
  obtain ⟨rfl, h2⟩ := h
  refine ⟨?_, ?_⟩
  · rw [Int.tdiv_eq_ediv_of_nonneg (Int.natCast_nonneg _), Nat.pow_succ, ← Nat.div_div_eq_div_mul]
    generalize N / 10 ^ k = q
    omega
  · have h3 := h2.cons (N / 10 ^ k)
    rw [Int.natAbs_natCast, dg_mod]
    have e : N / 10 ^ k % 10 * 10 ^ (len0 + k) + (N % 10 ^ k * 10 ^ len0 + n0) = N % 10 ^ (k + 1) * 10 ^ len0 + n0 := by
      rw [Nat.pow_succ, Nat.mod_mul, Nat.add_mul, Nat.pow_add, Nat.mul_comm (10 ^ len0) (10 ^ k), ← Nat.mul_assoc, Nat.mul_comm (N / 10 ^ k % 10) (10 ^ k)]
      omega
    rw [e] at h3
    exact h3
end Go.Proofs.YtgnppdkeiihlfaaGreatDoor
/- trancheref01: plus, minus. -/
namespace Go.Proofs.YtgnppdkeiihlfaaGreatDoor
open Go.RowKit Num

theorem gv_take_getD (l : List Nat) (k : Nat) : gv (l.take (k + 1)) = gv (l.take k) + BASE ^ k * l.getD k 0 := by
  rcases Nat.lt_or_ge k l.length with h | h
  · have h1 : l[k]? = some l[k] := List.getElem?_eq_getElem h
    rw [gv_take_of h1, List.getD_eq_getElem?_getD, h1]; rfl
  · rw [gv_take_all h, List.getD_eq_getElem?_getD, List.getElem?_eq_none h]; simp
end Go.Proofs.YtgnppdkeiihlfaaGreatDoor
/- trancheref01: minus. -/
namespace Go.Proofs.YtgnppdkeiihlfaaGreatDoor
open Go.RowKit Num

def SubAt (l l' O : List Nat) (k br : Nat) : Prop := O.length = k ∧ small O ∧ gv O + gv (l'.take k) = gv (l.take k) + BASE ^ k * br
theorem SubAt.step {l l' O : List Nat} {k br x y d br' : Nat} (h : SubAt l l' O k br) (hx : l[k]? = some x) (hy : l'.getD k 0 = y) (hd : d < 1000000000) (he : d + y + br = x + 1000000000 * br') : SubAt l l' (O ++ [d]) (k + 1) br' := by
  obtain ⟨h1, h2, h3⟩ := h
  refine ⟨by simp [h1], small_snoc h2 hd, ?_⟩
  rw [gv_snoc, h1, gv_take_getD l', gv_take_of hx, hy, Nat.pow_succ]
  have e : BASE ^ k * (d + y + br) = BASE ^ k * (x + 1000000000 * br') := by rw [he]
  have eB : BASE = 1000000000 := rfl
  rw [Nat.mul_add, Nat.mul_add, Nat.mul_add, ← Nat.mul_assoc] at e
  rw [← eB] at e
  omega
end Go.Proofs.YtgnppdkeiihlfaaGreatDoor
/- trancheref01: times. -/
namespace Go.Proofs.YtgnppdkeiihlfaaGreatDoor
open Go.RowKit Num

/-- inside the product: k groups of the second factor are worked out with the group x at place i -/
def MulAt (l l' R : List Nat) (i k x c : Nat) : Prop := R.length = l.length + l'.length ∧ small R ∧ c < BASE ∧ gv R + BASE ^ (i + k) * c = gv (l.take i) * gv l' + BASE ^ i * (x * gv (l'.take k))
theorem MulAt.step {l l' R : List Nat} {i k x c o y : Nat} (h : MulAt l l' R i k x c) (ho : R[i + k]? = some o) (hy : l'.getD k 0 = y) (hxb : x < BASE) (hyb : y < BASE) :
    MulAt l l' (R.set (i + k) ((o + x * y + c) % BASE)) i (k + 1) x ((o + x * y + c) / BASE) := by
  obtain ⟨h1, h2, h3, h4⟩ := h
  have hob : o < BASE := h2 o (List.mem_of_getElem? ho)
  have hxy := mul_lt_base2 hxb hyb
  refine ⟨by simp [h1], small_set h2 (Nat.mod_lt _ (by decide)), ?_, ?_⟩
  · apply Nat.div_lt_of_lt_mul; unfold BASE at *; omega
  · have hs := gv_set ho ((o + x * y + c) % BASE)
    rw [gv_take_getD, hy]
    have e1 : BASE ^ (i + (k + 1)) * ((o + x * y + c) / BASE) + BASE ^ (i + k) * ((o + x * y + c) % BASE) = BASE ^ (i + k) * (o + x * y + c) := by
      rw [show i + (k + 1) = (i + k) + 1 by omega, Nat.pow_succ, Nat.mul_assoc, ← Nat.mul_add, Nat.div_add_mod]
    have e2 : BASE ^ i * (x * (gv (l'.take k) + BASE ^ k * y)) = BASE ^ i * (x * gv (l'.take k)) + BASE ^ (i + k) * (x * y) := by
      rw [Nat.mul_add x, Nat.mul_add, Nat.pow_add, Nat.mul_assoc]
      congr 1
      rw [← Nat.mul_assoc x, Nat.mul_comm x, Nat.mul_assoc]
    have e3 : BASE ^ (i + k) * (o + x * y + c) = BASE ^ (i + k) * o + BASE ^ (i + k) * (x * y) + BASE ^ (i + k) * c := by rw [Nat.mul_add, Nat.mul_add]
    omega
theorem MulAt.over {l l' R : List Nat} {i k x c : Nat} (h : MulAt l l' R i k x c) (hx : l[i]? = some x) (hl : small l) (hl' : small l') (hk : l'.length < k) : c = 0 := by
  obtain ⟨h1, h2, h3, h4⟩ := h
  have e0 : l'.take k = l' := List.take_of_length_le (by omega)
  rw [e0] at h4
  have e : gv (l.take i) * gv l' + BASE ^ i * (x * gv l') = gv (l.take (i + 1)) * gv l' := by rw [gv_take_of hx, Nat.add_mul, Nat.mul_assoc]
  rw [e] at h4
  have b1 := gv_lt (l.take (i + 1)) (small_take hl _)
  have b2 := gv_lt l' hl'
  have b3 : (l.take (i + 1)).length ≤ i + 1 := List.length_take_le _ _
  have b4 : BASE ^ (l.take (i + 1)).length ≤ BASE ^ (i + 1) := Nat.pow_le_pow_right (by decide) b3
  have b5 : gv (l.take (i + 1)) * gv l' ≤ BASE ^ (i + 1) * BASE ^ l'.length := Nat.mul_le_mul (by omega) (by omega)
  have b5' : gv (l.take (i + 1)) * gv l' < BASE ^ (i + 1) * BASE ^ l'.length := Nat.mul_lt_mul'' (by omega) b2
  rw [← Nat.pow_add] at b5'
  have b6 : BASE ^ (i + 1 + l'.length) ≤ BASE ^ (i + k) := Nat.pow_le_pow_right (by decide) (by omega)
  rcases Nat.eq_zero_or_pos c with h0 | h0
  · exact h0
  · have : BASE ^ (i + k) * 1 ≤ BASE ^ (i + k) * c := Nat.mul_le_mul_left _ h0
    omega
theorem MulAt.leave {l l' R : List Nat} {i k x : Nat} (h : MulAt l l' R i k x 0) (hx : l[i]? = some x) (hk : l'.length ≤ k) : R.length = l.length + l'.length ∧ small R ∧ gv R = gv (l.take (i + 1)) * gv l' := by
  obtain ⟨h1, h2, h3, h4⟩ := h
  have e0 : l'.take k = l' := List.take_of_length_le hk
  rw [e0] at h4
  exact ⟨h1, h2, by rw [gv_take_of hx, Nat.add_mul, Nat.mul_assoc]; omega⟩
end Go.Proofs.YtgnppdkeiihlfaaGreatDoor
