/- Plain: rounding, decimal texts, how often 2 and 5 divide. No program in sight. -/
import Derived.Test.YtmmhimgkpfcokaaGreatDoorBe
namespace Go.Proofs.YtmmhimgkpfcokaaGreatDoor
open Num
def upB (fl c m : Int) : Bool :=
  if m = 1 then decide (0 < c) || (decide (c = 0) && decide (fl % 2 ≠ 0))
  else if m = 2 then decide (0 < c) || (decide (c = 0) && decide (0 ≤ fl))
  else if m = 3 then decide (fl < 0)
  else if m = 4 then decide (0 ≤ fl)
  else decide (m = 6)
def halfC (q : Rat) : Int := cmpZ (2 * (q.num % q.den)) q.den
def rnd (q : Rat) (m : Int) : Int := if q.den = 1 then q.floor else if upB q.floor (halfC q) m then q.floor + 1 else q.floor

theorem den_pos' (q : Rat) : (0 : Rat) < ((q.den : Int) : Rat) := by
  have := q.den_pos
  rw [Rat.intCast_natCast]
  exact Rat.natCast_pos.2 this
theorem floor_num (q : Rat) : q.floor = q.num / q.den := Rat.floor_def q
theorem mul_den (q : Rat) : q * ((q.den : Int) : Rat) = (q.num : Rat) := by
  have h : q = Rat.divInt q.num q.den := (Rat.num_divInt_den q).symm
  have hd : (q.den : Int) ≠ 0 := by have := q.den_nz; omega
  obtain ⟨n, hn⟩ : ∃ n, n = q.num := ⟨_, rfl⟩
  obtain ⟨d, hd'⟩ : ∃ d, d = (q.den : Int) := ⟨_, rfl⟩
  rw [← hn, ← hd'] at h ⊢
  rw [← hd'] at hd
  rw [h, Rat.divInt_eq_div, Rat.div_mul_cancel]
  intro e
  have : (d : Rat) = ((0 : Int) : Rat) := e
  exact hd (Rat.intCast_inj.1 this)
theorem rest_den (q : Rat) : (q - q.floor) * ((q.den : Int) : Rat) = ((q.num % q.den : Int) : Rat) := by
  have h := Int.emod_add_mul_ediv q.num q.den
  have h2 : ((q.num % q.den : Int) : Rat) + ((q.den : Int) : Rat) * (q.floor : Rat) = (q.num : Rat) := by
    rw [floor_num]
    have := congrArg (fun z : Int => (z : Rat)) h
    simpa only [Rat.intCast_add, Rat.intCast_mul] using this
  have h3 := mul_den q
  grind
theorem halfC_cases (q : Rat) : (halfC q = 1 ∧ 1 < 2 * (q - q.floor)) ∨ (halfC q = 0 ∧ 2 * (q - q.floor) = 1) ∨ (halfC q = -1 ∧ 2 * (q - q.floor) < 1) := by
  have hd := den_pos' q
  have hr := rest_den q
  obtain ⟨r, e⟩ : ∃ r, r = q.num % q.den := ⟨_, rfl⟩
  unfold halfC cmpZ
  rw [← e] at hr ⊢
  obtain ⟨d, hd'⟩ : ∃ d, d = (q.den : Int) := ⟨_, rfl⟩
  rw [← hd'] at hr hd ⊢
  by_cases h1 : 2 * r < d
  · right; right
    refine ⟨if_pos h1, ?_⟩
    have h2 : ((2 * r : Int) : Rat) < (d : Rat) := Rat.intCast_lt_intCast.2 h1
    rw [Rat.intCast_mul, ← hr] at h2
    have h4 : (2 * (q - q.floor)) * (d : Rat) < 1 * (d : Rat) := by grind
    exact (Rat.mul_lt_mul_right hd).1 h4
  · by_cases h2 : d < 2 * r
    · left
      refine ⟨by rw [if_neg h1, if_pos h2], ?_⟩
      have h2 : (d : Rat) < ((2 * r : Int) : Rat) := Rat.intCast_lt_intCast.2 h2
      rw [Rat.intCast_mul, ← hr] at h2
      have h4 : 1 * (d : Rat) < (2 * (q - q.floor)) * (d : Rat) := by grind
      exact (Rat.mul_lt_mul_right hd).1 h4
    · right; left
      refine ⟨by rw [if_neg h1, if_neg h2], ?_⟩
      have h3 : 2 * r = d := by omega
      have h3 : ((2 * r : Int) : Rat) = (d : Rat) := congrArg (fun z : Int => (z : Rat)) h3
      rw [Rat.intCast_mul, ← hr] at h3
      have h4 : (2 * (q - q.floor) - 1) * (d : Rat) = 0 := by grind
      rcases Rat.mul_eq_zero.1 h4 with h | h
      · grind
      · grind
theorem den_one (q : Rat) : q.den = 1 ↔ q = q.floor := by
  constructor
  · intro h
    have h2 := mul_den q
    have : q.floor = q.num := by rw [floor_num, h]; simp
    rw [this, ← h2, h]; simp
  · intro h
    rw [h]; rfl
theorem fl_le (q : Rat) : (q.floor : Rat) ≤ q := Rat.floor_le q
theorem lt_fl (q : Rat) : q < (q.floor : Rat) + 1 := by have := Rat.lt_floor_add_one q; simpa using this
theorem fl_neg (q : Rat) : q < 0 ↔ q.floor < 0 := by
  have h1 := fl_le q
  have h2 := lt_fl q
  constructor
  · intro h
    have : (q.floor : Rat) < ((0 : Int) : Rat) := by grind
    exact Rat.intCast_lt_intCast.1 this
  · intro h
    have : q.floor + 1 ≤ 0 := by omega
    have : ((q.floor + 1 : Int) : Rat) ≤ ((0 : Int) : Rat) := Rat.intCast_le_intCast.2 this
    have : (q.floor : Rat) + 1 ≤ 0 := by simpa [Rat.intCast_add] using this
    grind
/-- the floor and the rest of a number are what they seem -/
theorem fl_uniq {q : Rat} {z : Int} (h1 : (z : Rat) ≤ q) (h2 : q < (z : Rat) + 1) : q.floor = z := by
  have h3 := fl_le q
  have h4 := lt_fl q
  have a1 : (z : Rat) < ((q.floor + 1 : Int) : Rat) := by rw [Rat.intCast_add]; grind
  have a2 : (q.floor : Rat) < ((z + 1 : Int) : Rat) := by rw [Rat.intCast_add]; grind
  have b1 := Rat.intCast_lt_intCast.1 a1
  have b2 := Rat.intCast_lt_intCast.1 a2
  omega
theorem rnd_or (q : Rat) (m : Int) : rnd q m = q.floor ∨ (rnd q m = q.floor + 1 ∧ q ≠ q.floor) := by
  unfold rnd
  by_cases h : q.den = 1
  · rw [if_pos h]; exact .inl rfl
  · rw [if_neg h]
    split
    · exact .inr ⟨rfl, fun e => h ((den_one q).2 e)⟩
    · exact .inl rfl
theorem rnd_int (z : Int) (m : Int) : rnd (z : Rat) m = z := by
  unfold rnd; rw [if_pos (Rat.den_intCast z)]; exact Rat.floor_intCast z
theorem rnd_near (q : Rat) (m : Int) : q - rnd q m < 1 ∧ -1 < q - rnd q m := by
  have h1 := fl_le q
  have h2 := lt_fl q
  rcases rnd_or q m with h | ⟨h, h0⟩
  · rw [h]; constructor <;> grind
  · rw [h, Rat.intCast_add]
    have : (q.floor : Rat) < q := by
      rcases Rat.le_iff_lt_or_eq.1 h1 with h | h
      · exact h
      · exact absurd h.symm h0
    constructor <;> grind
theorem rnd_half (q : Rat) (m : Int) (hm : m = 1 ∨ m = 2) : 2 * (q - rnd q m) ≤ 1 ∧ -1 ≤ 2 * (q - rnd q m) := by
  have h1 := fl_le q
  have h2 := lt_fl q
  unfold rnd
  by_cases h : q.den = 1
  · rw [if_pos h]; have := (den_one q).1 h; constructor <;> grind
  · rw [if_neg h]
    rcases halfC_cases q with ⟨e, h3⟩ | ⟨e, h3⟩ | ⟨e, h3⟩
    · have : upB q.floor (halfC q) m = true := by rcases hm with rfl | rfl <;> simp [upB, e]
      rw [this, if_pos rfl, Rat.intCast_add]; constructor <;> grind
    · split
      · rw [Rat.intCast_add]; constructor <;> grind
      · constructor <;> grind
    · have : upB q.floor (halfC q) m = false := by rcases hm with rfl | rfl <;> simp [upB, e]
      rw [this, if_neg (by decide)]; constructor <;> grind
theorem rnd_floor (q : Rat) : rnd q 5 = q.floor := by
  unfold rnd; split
  · rfl
  · rw [if_neg (by simp [upB])]
theorem rnd_ceil (q : Rat) : rnd q 6 = if q.den = 1 then q.floor else q.floor + 1 := by
  unfold rnd; split
  · rfl
  · rw [if_pos (by simp [upB])]
theorem fl_neg_of (q : Rat) : (-q).floor = if q.den = 1 then -q.floor else -q.floor - 1 := by
  have h1 := fl_le q
  have h2 := lt_fl q
  by_cases h : q.den = 1
  · rw [if_pos h]
    have := (den_one q).1 h
    refine fl_uniq ?_ ?_ <;> rw [Rat.intCast_neg] <;> grind
  · rw [if_neg h]
    have h0 : q ≠ q.floor := fun e => h ((den_one q).2 e)
    refine fl_uniq ?_ ?_ <;> rw [Rat.intCast_sub, Rat.intCast_neg] <;> grind
theorem half_neg (q : Rat) (h : q.den ≠ 1) : halfC (-q) = -halfC q := by
  have h0 := fl_neg_of q
  rw [if_neg h] at h0
  have a := halfC_cases q
  have b := halfC_cases (-q)
  rw [h0, Rat.intCast_sub, Rat.intCast_neg] at b
  rcases a with ⟨e, h3⟩ | ⟨e, h3⟩ | ⟨e, h3⟩ <;> rcases b with ⟨e', h3'⟩ | ⟨e', h3'⟩ | ⟨e', h3'⟩ <;> grind
theorem rnd_neg (q : Rat) (m : Int) (h1 : 1 ≤ m) (h4 : m ≤ 4) : rnd (-q) m = -rnd q m := by
  unfold rnd
  rw [Rat.neg_den, fl_neg_of]
  by_cases h : q.den = 1
  · rw [if_pos h, if_pos h, if_pos h]
  · rw [if_neg h, if_neg h, if_neg h, half_neg q h]
    have hm : m = 1 ∨ m = 2 ∨ m = 3 ∨ m = 4 := by omega
    rcases halfC_cases q with ⟨e, -⟩ | ⟨e, -⟩ | ⟨e, -⟩ <;> rw [e] <;> rcases hm with rfl | rfl | rfl | rfl <;> simp only [upB] <;> simp <;> grind
theorem rnd_neg56 (q : Rat) : rnd (-q) 5 = -rnd q 6 ∧ rnd (-q) 6 = -rnd q 5 := by
  rw [rnd_floor, rnd_floor, rnd_ceil, rnd_ceil, Rat.neg_den, fl_neg_of]
  by_cases h : q.den = 1
  · simp [h]
  · simp [h]; omega
theorem rnd_le (q : Rat) (m : Int) : q.floor ≤ rnd q m ∧ rnd q m ≤ q.floor + 1 := by
  rcases rnd_or q m with h | ⟨h, -⟩ <;> omega
theorem fl_mono {p q : Rat} (h : p ≤ q) : p.floor ≤ q.floor := by
  have h1 := fl_le p
  have h2 := lt_fl q
  have : (p.floor : Rat) < ((q.floor + 1 : Int) : Rat) := by rw [Rat.intCast_add]; grind
  have := Rat.intCast_lt_intCast.1 this
  omega
theorem upB_mono {fl c c' m : Int} (h : c ≤ c') (hu : upB fl c m = true) : upB fl c' m = true := by
  unfold upB at *
  grind
theorem half_mono {p q : Rat} (h : p ≤ q) (he : p.floor = q.floor) : halfC p ≤ halfC q := by
  have a := halfC_cases p
  have b := halfC_cases q
  rw [he] at a
  rcases a with ⟨e, h3⟩ | ⟨e, h3⟩ | ⟨e, h3⟩ <;> rcases b with ⟨e', h3'⟩ | ⟨e', h3'⟩ | ⟨e', h3'⟩ <;> grind
theorem rnd_mono {p q : Rat} (m : Int) (h : p ≤ q) : rnd p m ≤ rnd q m := by
  have hf := fl_mono h
  by_cases he : p.floor = q.floor
  · have h1 := rnd_le q m
    by_cases hp : p.den = 1
    · have : rnd p m = p.floor := by unfold rnd; rw [if_pos hp]
      omega
    · by_cases hq : q.den = 1
      · have h2 := (den_one q).1 hq
        have h3 := fl_le p
        rw [he, ← h2] at h3
        have : p = q := Rat.le_antisymm h h3
        rw [this]; exact Int.le_refl _
      · unfold rnd
        rw [if_neg hp, if_neg hq, he]
        by_cases hu : upB q.floor (halfC p) m = true
        · rw [if_pos hu, if_pos (upB_mono (half_mono h he) hu)]; exact Int.le_refl _
        · rw [if_neg hu]; split <;> omega
  · have h1 := rnd_le p m
    have h2 := rnd_le q m
    omega
theorem add_fl (q : Rat) (n : Int) : (q + n).floor = q.floor + n := by
  have h1 := fl_le q
  have h2 := lt_fl q
  refine fl_uniq ?_ ?_ <;> rw [Rat.intCast_add] <;> grind
theorem add_den (q : Rat) (n : Int) : (q + n).den = 1 ↔ q.den = 1 := by
  rw [den_one, den_one, add_fl, Rat.intCast_add]
  constructor <;> intro h <;> grind
theorem add_half (q : Rat) (n : Int) : halfC (q + n) = halfC q := by
  have a := halfC_cases q
  have b := halfC_cases (q + n)
  rw [add_fl, Rat.intCast_add] at b
  rcases a with ⟨e, h3⟩ | ⟨e, h3⟩ | ⟨e, h3⟩ <;> rcases b with ⟨e', h3'⟩ | ⟨e', h3'⟩ | ⟨e', h3'⟩ <;> grind
theorem rnd_add (q : Rat) (n m : Int) (h : (m = 1 ∧ n % 2 = 0) ∨ ((q < 0 ↔ q + n < 0) ∧ 2 ≤ m) ∨ 5 ≤ m) : rnd (q + n) m = rnd q m + n := by
  unfold rnd
  by_cases hd : q.den = 1
  · rw [if_pos hd, if_pos ((add_den q n).2 hd), add_fl]
  · rw [if_neg hd, if_neg (fun h => hd ((add_den q n).1 h)), add_fl, add_half]
    have : upB (q.floor + n) (halfC q) m = upB q.floor (halfC q) m := by
      rcases h with ⟨rfl, h⟩ | ⟨h, h2⟩ | h
      · simp only [upB, if_pos]; grind
      · rw [fl_neg, fl_neg, add_fl] at h
        simp only [upB]
        have : (0 ≤ q.floor + n) ↔ (0 ≤ q.floor) := by omega
        grind
      · simp only [upB]; grind
    rw [this]
    split <;> omega
/-! Decimal texts. -/
theorem index46_none : ∀ a : List UInt8, 46 ∉ a → Lib.index a [46] = -1
  | [], _ => rfl
  | x :: a, h => by
    have h1 : ¬ (46 = x) := fun e => h (by rw [e]; exact List.mem_cons_self)
    have ih := index46_none a (fun e => h (List.mem_cons_of_mem _ e))
    unfold Lib.index
    simp [h1, ih]
theorem index46_at : ∀ a b : List UInt8, 46 ∉ a → Lib.index (a ++ 46 :: b) [46] = (a.length : Int)
  | [], b, _ => by unfold Lib.index; simp
  | x :: a, b, h => by
    have h1 : ¬ (46 = x) := fun e => h (by rw [e]; exact List.mem_cons_self)
    have ih := index46_at a b (fun e => h (List.mem_cons_of_mem _ e))
    rw [List.cons_append]
    unfold Lib.index
    rw [ih]
    have h2 : ((a.length : Int) == -1) = false := by rw [beq_eq_false_iff_ne]; omega
    simp [h1, h2]
theorem cut46_none {a : List UInt8} (h : 46 ∉ a) : Lib.cut a [46] = (a, [], false) := by
  unfold Lib.cut; rw [index46_none a h, if_neg (by decide)]
theorem cut46_at {a : List UInt8} (b : List UInt8) (h : 46 ∉ a) : Lib.cut (a ++ 46 :: b) [46] = (a, b, true) := by
  unfold Lib.cut; rw [index46_at a b h, if_pos (by omega), Int.toNat_natCast]
  simp
theorem point_cases : ∀ s : List UInt8, 46 ∉ s ∨ ∃ a b, 46 ∉ a ∧ s = a ++ 46 :: b
  | [] => .inl (by simp)
  | x :: s => by
    by_cases h : x = 46
    · exact .inr ⟨[], s, by simp, by rw [h]; rfl⟩
    · rcases point_cases s with h1 | ⟨a, b, h1, h2⟩
      · exact .inl (by simp; exact ⟨fun e => h e.symm, h1⟩)
      · exact .inr ⟨x :: a, b, by simp; exact ⟨fun e => h e.symm, h1⟩, by rw [h2]; rfl⟩
/-- a text without a point, or with one -/
theorem cut46_cases (s : List UInt8) : (46 ∉ s ∧ Lib.cut s [46] = (s, [], false)) ∨ ∃ a b, 46 ∉ a ∧ s = a ++ 46 :: b ∧ Lib.cut s [46] = (a, b, true) := by
  rcases point_cases s with h | ⟨a, b, h, rfl⟩
  · exact .inl ⟨h, cut46_none h⟩
  · exact .inr ⟨a, b, h, rfl, cut46_at b h⟩
def isD (l : List UInt8) : Bool := !l.isEmpty && l.all isDig
def okW (l : List UInt8) : Bool := isD l && !(decide (1 < l.length) && (l.head? == some 48))
def decW (s : List UInt8) : List UInt8 := (Lib.cut (rest s) [46]).1
def decP (s : List UInt8) : List UInt8 := (Lib.cut (rest s) [46]).2.1
def decB (s : List UInt8) : Bool := (Lib.cut (rest s) [46]).2.2
def decN' (s : List UInt8) : Nat := nat (decW s ++ decP s)
def decZ (s : List UInt8) : Int := if isNeg s then -(decN' s : Int) else (decN' s : Int)
def decOk (s : List UInt8) : Bool := okW (decW s) && (!decB s || isD (decP s)) && !(isNeg s && decN' s == 0)
theorem isD_iff (l : List UInt8) : isD l = true ↔ l ≠ [] ∧ l.all isDig = true := by
  unfold isD; cases l <;> simp
theorem no46 {l : List UInt8} (h : l.all isDig = true) : 46 ∉ l := fun hm => by
  have := List.all_eq_true.1 h 46 hm
  exact absurd this (by decide)
theorem no45_head {l : List UInt8} (h : l.all isDig = true) : isNeg l = false := by
  cases l with
  | nil => rfl
  | cons a t =>
    have : isDig a = true := by simp at h; exact h.1
    unfold isNeg
    rw [beq_eq_false_iff_ne]
    intro e
    simp at e
    rw [e] at this
    exact absurd this (by decide)
/-- digits that are as many and make the same number are the same -/
theorem nat_inj : ∀ (l m : List UInt8), l.length = m.length → l.all isDig = true → m.all isDig = true → nat l = nat m → l = m
  | [], [], _, _, _, _ => rfl
  | [], _ :: _, h, _, _, _ => by simp at h
  | _ :: _, [], h, _, _, _ => by simp at h
  | a :: l, b :: m, h, hl, hm, e => by
    simp only [List.length_cons, Nat.add_right_cancel_iff] at h
    simp only [List.all_cons, Bool.and_eq_true] at hl hm
    rw [nat_cons, nat_cons, h] at e
    have h1 := nat_lt l hl.2
    have h2 := nat_lt m hm.2
    rw [h] at h1
    have hp : 0 < 10 ^ m.length := Nat.pow_pos (by decide)
    have e1 : (a.toNat - 48) = (b.toNat - 48) := by
      have := congrArg (· / 10 ^ m.length) e
      simpa [Nat.mul_comm _ (10 ^ m.length), Nat.mul_add_div hp, Nat.div_eq_of_lt h1, Nat.div_eq_of_lt h2] using this
    have e2 : nat l = nat m := by rw [e1] at e; omega
    have ha := digit_of a hl.1
    have hb := digit_of b hm.1
    rw [← ha, ← hb, e1, nat_inj l m h hl.2 hm.2 e2]
theorem head48_sig {l : List UInt8} (h : l.head? ≠ some 48) : sig l = l := by
  cases l with
  | nil => rfl
  | cons a t =>
    unfold sig
    rw [List.dropWhile_cons_of_neg]
    simp at h ⊢; exact h
/-- the whole part is the text of its number -/
theorem okW_fmt {l : List UInt8} (h : okW l = true) : l = fmt (nat l) ∧ l ≠ [] ∧ l.all isDig = true := by
  unfold okW at h
  simp only [Bool.and_eq_true, Bool.not_eq_true'] at h
  obtain ⟨h1, h2⟩ := h
  obtain ⟨hn, hd⟩ := (isD_iff l).1 h1
  refine ⟨?_, hn, hd⟩
  cases l with
  | nil => exact absurd rfl hn
  | cons a t =>
    by_cases ha : a = 48
    · subst ha
      cases t with
      | nil => decide
      | cons b u => simp at h2
    · have hs : sig (a :: t) = a :: t := head48_sig (by simpa using ha)
      have := dec_nat (a :: t) hd
      unfold fmt
      rw [if_neg, this, hs]
      intro h0
      rw [h0, dec_zero, hs] at this
      exact absurd this (by simp)
def zpad (k : Nat) (l : List UInt8) : List UInt8 := List.replicate (k - l.length) 48 ++ l
theorem zpad_len (k : Nat) (l : List UInt8) : (zpad k l).length = max k l.length := by unfold zpad; simp; omega
theorem nat_zeros : ∀ k, nat (List.replicate k 48) = 0
  | 0 => rfl
  | k + 1 => by rw [List.replicate_succ, nat_cons, nat_zeros k]; simp
theorem zpad_nat (k : Nat) (l : List UInt8) : nat (zpad k l) = nat l := by unfold zpad; rw [nat_append, nat_zeros]; simp
theorem zpad_dig (k : Nat) {l : List UInt8} (h : l.all isDig = true) : (zpad k l).all isDig = true := by
  unfold zpad; rw [List.all_append, h, Bool.and_true, List.all_eq_true]
  intro x hx
  rw [List.eq_of_mem_replicate hx]; decide
def tW (a p : Nat) : List UInt8 := (zpad (p + 1) (dec a)).take ((zpad (p + 1) (dec a)).length - p)
def tP (a p : Nat) : List UInt8 := (zpad (p + 1) (dec a)).drop ((zpad (p + 1) (dec a)).length - p)
def sgnT (z : Int) : List UInt8 := if z < 0 then [45] else []
def textD (z : Int) (p : Nat) : List UInt8 := sgnT z ++ (tW z.natAbs p ++ if p = 0 then [] else 46 :: tP z.natAbs p)
theorem tWP (a p : Nat) : tW a p ++ tP a p = zpad (p + 1) (dec a) := List.take_append_drop _ _
theorem tP_len (a p : Nat) : (tP a p).length = p := by unfold tP; rw [List.length_drop, zpad_len]; omega
theorem tW_len (a p : Nat) : (tW a p).length = max (p + 1) (dec a).length - p := by unfold tW; rw [List.length_take, zpad_len]; omega
theorem tWP_nat (a p : Nat) : nat (tW a p ++ tP a p) = a := by rw [tWP, zpad_nat, nat_dec]
theorem all_take {l : List UInt8} (h : l.all isDig = true) (k : Nat) : (l.take k).all isDig = true := by
  rw [List.all_eq_true] at h ⊢; exact fun x hx => h x (List.mem_of_mem_take hx)
theorem all_drop {l : List UInt8} (h : l.all isDig = true) (k : Nat) : (l.drop k).all isDig = true := by
  rw [List.all_eq_true] at h ⊢; exact fun x hx => h x (List.mem_of_mem_drop hx)
theorem tW_dig (a p : Nat) : (tW a p).all isDig = true := all_take (zpad_dig _ (dec_digs a)) _
theorem tP_dig (a p : Nat) : (tP a p).all isDig = true := all_drop (zpad_dig _ (dec_digs a)) _
theorem tW_ok (a p : Nat) : okW (tW a p) = true := by
  have hd := tW_dig a p
  have hl := tW_len a p
  have hne : tW a p ≠ [] := fun e => by rw [e] at hl; simp at hl; omega
  unfold okW
  rw [(isD_iff _).2 ⟨hne, hd⟩, Bool.true_and, Bool.not_eq_true', Bool.and_eq_false_iff]
  by_cases h1 : 1 < (tW a p).length
  · right
    have h2 : p + 1 < (dec a).length := by omega
    have h3 : zpad (p + 1) (dec a) = dec a := by unfold zpad; rw [Nat.sub_eq_zero_of_le (by omega)]; rfl
    rw [beq_eq_false_iff_ne]
    have h4 := dec_head a
    unfold tW
    rw [h3]
    rw [List.head?_take]
    split
    · simp
    · exact h4
  · left; exact decide_eq_false h1
theorem textD_neg (z : Int) (p : Nat) : isNeg (textD z p) = decide (z < 0) := by
  unfold textD sgnT
  by_cases h : z < 0
  · rw [if_pos h, decide_eq_true h]; rfl
  · rw [if_neg h, decide_eq_false h, List.nil_append]
    have hd := tW_dig z.natAbs p
    have hl := tW_len z.natAbs p
    cases hw : tW z.natAbs p with
    | nil => rw [hw] at hl; simp at hl; omega
    | cons a t =>
      rw [hw] at hd
      have h1 : isDig a = true := by simp at hd; exact hd.1
      unfold isNeg
      rw [beq_eq_false_iff_ne, List.cons_append]
      intro e
      simp at e
      rw [e] at h1
      exact absurd h1 (by decide)
theorem textD_rest (z : Int) (p : Nat) : rest (textD z p) = tW z.natAbs p ++ if p = 0 then [] else 46 :: tP z.natAbs p := by
  unfold rest
  rw [textD_neg]
  unfold textD sgnT
  by_cases h : z < 0
  · rw [decide_eq_true h, if_pos rfl, if_pos h]; rfl
  · rw [decide_eq_false h, if_neg (by decide), if_neg h]; rfl
theorem textD_cut (z : Int) (p : Nat) : Lib.cut (rest (textD z p)) [46] = (tW z.natAbs p, tP z.natAbs p, decide (0 < p)) := by
  rw [textD_rest]
  by_cases h : p = 0
  · have e : tP z.natAbs p = [] := List.eq_nil_of_length_eq_zero (by rw [tP_len, h])
    rw [if_pos h, List.append_nil, cut46_none (no46 (tW_dig _ _)), e, h]; rfl
  · rw [if_neg h, cut46_at _ (no46 (tW_dig _ _)), decide_eq_true (by omega)]
theorem textD_W (z : Int) (p : Nat) : decW (textD z p) = tW z.natAbs p := by unfold decW; rw [textD_cut]
theorem textD_P (z : Int) (p : Nat) : decP (textD z p) = tP z.natAbs p := by unfold decP; rw [textD_cut]
theorem textD_B (z : Int) (p : Nat) : decB (textD z p) = decide (0 < p) := by unfold decB; rw [textD_cut]
theorem textD_N (z : Int) (p : Nat) : decN' (textD z p) = z.natAbs := by unfold decN'; rw [textD_W, textD_P, tWP_nat]
theorem textD_Z (z : Int) (p : Nat) : decZ (textD z p) = z := by
  unfold decZ; rw [textD_neg, textD_N]
  by_cases h : z < 0
  · rw [decide_eq_true h, if_pos rfl]; omega
  · rw [decide_eq_false h, if_neg (by decide)]; omega
theorem textD_ok (z : Int) (p : Nat) : decOk (textD z p) = true := by
  unfold decOk
  rw [textD_W, textD_B, textD_P, textD_neg, textD_N, tW_ok, Bool.true_and]
  have h1 : (!decide (0 < p) || isD (tP z.natAbs p)) = true := by
    by_cases h : 0 < p
    · rw [decide_eq_true h, Bool.not_true, Bool.false_or]
      exact (isD_iff _).2 ⟨fun e => by have := tP_len z.natAbs p; rw [e] at this; simp at this; omega, tP_dig _ _⟩
    · rw [decide_eq_false h]; rfl
  rw [h1, Bool.true_and, Bool.not_eq_true', Bool.and_eq_false_iff]
  by_cases h : z < 0
  · right; rw [beq_eq_false_iff_ne]; omega
  · left; exact decide_eq_false h
theorem textD_len (z : Int) (p : Nat) : (textD z p).length ≤ (dec z.natAbs).length + p + 3 := by
  have h1 := tW_len z.natAbs p
  have h2 := tP_len z.natAbs p
  unfold textD sgnT
  split <;> split <;> simp <;> omega
/-! Without the zeros at the end. -/
def strip (l : List UInt8) : List UInt8 := (l.reverse.dropWhile (· == 48)).reverse
theorem strip_zeros (l : List UInt8) (k : Nat) : strip (l ++ List.replicate k 48) = strip l := by
  unfold strip
  rw [List.reverse_append, List.reverse_replicate]
  congr 1
  induction k with
  | zero => rfl
  | succ k ih => rw [List.replicate_succ, List.cons_append, List.dropWhile_cons_of_pos (by decide)]; exact ih
theorem strip_eq {l m : List UInt8} {N : Nat} (hl : l.all isDig = true) (hm : m.all isDig = true) (hN : l.length ≤ N) (hN' : m.length ≤ N) (e : nat l * 10 ^ (N - l.length) = nat m * 10 ^ (N - m.length)) : strip l = strip m := by
  have hz : ∀ k, (List.replicate k (48 : UInt8)).all isDig = true := fun k => by
    rw [List.all_eq_true]; intro x hx; rw [List.eq_of_mem_replicate hx]; decide
  rw [← strip_zeros l (N - l.length), ← strip_zeros m (N - m.length)]
  congr 1
  refine nat_inj _ _ (by simp; omega) (by rw [List.all_append, hl, hz]; rfl) (by rw [List.all_append, hm, hz]; rfl) ?_
  rw [nat_append, nat_append, nat_zeros, nat_zeros, List.length_replicate, List.length_replicate, e]
/-- two texts with the same value have the same whole part, and the same part behind the point but for zeros at the end -/
theorem same_parts {W P W' P' : List UInt8} (hW : okW W = true) (hW' : okW W' = true) (hP : P.all isDig = true) (hP' : P'.all isDig = true)
    (e : nat (W ++ P) * 10 ^ P'.length = nat (W' ++ P') * 10 ^ P.length) : W = W' ∧ strip P = strip P' := by
  have h1 := nat_lt P hP
  have h2 := nat_lt P' hP'
  rw [nat_append, nat_append] at e
  have p1 : 0 < 10 ^ P.length := Nat.pow_pos (by decide)
  have p2 : 0 < 10 ^ P'.length := Nat.pow_pos (by decide)
  obtain ⟨x, hx⟩ : ∃ x, x = 10 ^ P.length := ⟨_, rfl⟩
  obtain ⟨y, hy⟩ : ∃ y, y = 10 ^ P'.length := ⟨_, rfl⟩
  rw [← hx] at h1 p1 e
  rw [← hy] at h2 p2 e
  have e0 : nat W * (x * y) + nat P * y = nat W' * (x * y) + nat P' * x := by
    rw [Nat.add_mul, Nat.add_mul, Nat.mul_assoc, Nat.mul_assoc, Nat.mul_comm y x] at e; exact e
  have l1 : nat P * y < x * y := Nat.mul_lt_mul_of_pos_right h1 p2
  have l2 : nat P' * x < x * y := by rw [Nat.mul_comm x y]; exact Nat.mul_lt_mul_of_pos_right h2 p1
  have p3 : 0 < x * y := Nat.mul_pos p1 p2
  have hw : nat W = nat W' := by
    have := congrArg (· / (x * y)) e0
    simpa [Nat.mul_comm _ (x * y), Nat.mul_add_div p3, Nat.div_eq_of_lt l1, Nat.div_eq_of_lt l2] using this
  have hp : nat P * y = nat P' * x := by rw [hw] at e0; omega
  refine ⟨by rw [(okW_fmt hW).1, (okW_fmt hW').1, hw], strip_eq (N := P.length + P'.length) hP hP' (by omega) (by omega) ?_⟩
  rw [show P.length + P'.length - P.length = P'.length by omega, show P.length + P'.length - P'.length = P.length by omega, ← hx, ← hy]
  exact hp
/-! The text without zeros behind the point. -/
def trimT (s : List UInt8) : List UInt8 := if 46 ∈ s then (if (strip s).getLast? = some 46 then (strip s).dropLast else strip s) else s
def tail0 (P : List UInt8) : List UInt8 := if strip P = [] then [] else 46 :: strip P
theorem strip_app (a : List UInt8) {b : List UInt8} (h : strip b ≠ []) : strip (a ++ b) = a ++ strip b := by
  have e : ∀ (x y : List UInt8), x.dropWhile (· == 48) ≠ [] → (x ++ y).dropWhile (· == 48) = x.dropWhile (· == 48) ++ y := by
    intro x y hx
    induction x with
    | nil => exact absurd rfl hx
    | cons c x ih =>
      by_cases hc : (c == 48) = true
      · rw [List.cons_append, List.dropWhile_cons_of_pos (p := fun x : UInt8 => x == 48) hc, List.dropWhile_cons_of_pos (p := fun x : UInt8 => x == 48) hc]
        rw [List.dropWhile_cons_of_pos (p := fun x : UInt8 => x == 48) hc] at hx
        exact ih hx
      · rw [List.cons_append, List.dropWhile_cons_of_neg (p := fun x : UInt8 => x == 48) hc, List.dropWhile_cons_of_neg (p := fun x : UInt8 => x == 48) hc]; rfl
  unfold strip at *
  rw [List.reverse_append, e _ _ (fun h0 => h (by rw [h0]; rfl)), List.reverse_append, List.reverse_reverse]
theorem strip_nil_app (a : List UInt8) {b : List UInt8} (h : strip b = []) : strip (a ++ b) = strip a := by
  have e : ∀ (x y : List UInt8), x.dropWhile (· == 48) = [] → (x ++ y).dropWhile (· == 48) = y.dropWhile (· == 48) := by
    intro x y hx
    induction x with
    | nil => rfl
    | cons c x ih =>
      by_cases hc : (c == 48) = true
      · rw [List.cons_append, List.dropWhile_cons_of_pos (p := fun x : UInt8 => x == 48) hc]
        rw [List.dropWhile_cons_of_pos (p := fun x : UInt8 => x == 48) hc] at hx
        exact ih hx
      · rw [List.dropWhile_cons_of_neg (p := fun x : UInt8 => x == 48) hc] at hx; cases hx
  unfold strip at *
  rw [List.reverse_append, e _ _ (by simpa using h)]
theorem strip_last {l : List UInt8} (hd : l.all isDig = true) : (strip l).getLast? ≠ some 46 := by
  intro e
  have h1 : 46 ∈ strip l := List.mem_of_getLast? e
  have h2 : 46 ∈ l := by
    unfold strip at h1
    rw [List.mem_reverse] at h1
    have := (List.dropWhile_sublist _).subset h1
    rwa [List.mem_reverse] at this
  exact no46 hd h2
theorem trimT_point (a : List UInt8) {P : List UInt8} (hP : P.all isDig = true) : trimT (a ++ 46 :: P) = a ++ tail0 P := by
  unfold trimT tail0
  rw [if_pos (by simp)]
  by_cases h : strip P = []
  · have e : strip (a ++ 46 :: P) = a ++ [46] := by
      rw [show a ++ 46 :: P = (a ++ [46]) ++ P by simp, strip_nil_app _ h, strip_app a (b := [46]) (by decide)]; rfl
    rw [e, if_pos h, if_pos (by simp)]
    simp
  · have e : strip (a ++ 46 :: P) = a ++ 46 :: strip P := by
      rw [show a ++ 46 :: P = (a ++ [46]) ++ P by simp, strip_app _ h]; simp
    rw [e, if_neg h, if_neg]
    have := strip_last hP
    rw [List.getLast?_append, List.getLast?_cons]
    cases hl : (strip P).getLast? with
    | none => rw [List.getLast?_eq_none_iff] at hl; exact absurd hl h
    | some y => rw [hl] at this; simpa using this
theorem trimT_plain {a : List UInt8} (h : 46 ∉ a) : trimT a = a := by unfold trimT; rw [if_neg h]
theorem sgn_rest (s : List UInt8) : s = (if isNeg s then [45] else []) ++ rest s := by
  unfold rest
  by_cases h : isNeg s = true
  · rw [if_pos h, if_pos h]
    cases s with
    | nil => exact absurd h (by decide)
    | cons a t =>
      unfold isNeg at h
      have : a = 45 := by simpa using h
      rw [this]; rfl
  · rw [if_neg h, if_neg h]; rfl
theorem decOk_parts {s : List UInt8} (h : decOk s = true) : okW (decW s) = true ∧ (decP s).all isDig = true ∧ (isNeg s = true → decN' s ≠ 0) ∧ trimT s = (if isNeg s then [45] else []) ++ (decW s ++ tail0 (decP s)) := by
  unfold decOk at h
  simp only [Bool.and_eq_true, Bool.not_eq_true', Bool.or_eq_true] at h
  obtain ⟨⟨h1, h2⟩, h3⟩ := h
  have hs := sgn_rest s
  have hsg : 46 ∉ (if isNeg s then [45] else [] : List UInt8) := by split <;> decide
  have hn : isNeg s = true → decN' s ≠ 0 := by
    intro hg h0
    rw [hg, h0] at h3
    exact absurd h3 (by decide)
  have hWd := (okW_fmt h1).2.2
  rcases cut46_cases (rest s) with ⟨hno, hc⟩ | ⟨a, b, hno, he, hc⟩
  · have eW : decW s = rest s := by unfold decW; rw [hc]
    have eP : decP s = [] := by unfold decP; rw [hc]
    refine ⟨h1, by rw [eP]; rfl, hn, ?_⟩
    rw [eP, eW]
    have : trimT s = s := trimT_plain (by rw [hs]; simp only [List.mem_append, not_or]; exact ⟨hsg, hno⟩)
    rw [this]
    conv => lhs; rw [hs]
    simp [tail0, strip]
  · have eW : decW s = a := by unfold decW; rw [hc]
    have eP : decP s = b := by unfold decP; rw [hc]
    have eB : decB s = true := by unfold decB; rw [hc]
    have hb : b.all isDig = true := by
      rw [eP, eB] at h2
      rcases h2 with h2 | h2
      · cases h2
      · exact ((isD_iff b).1 h2).2
    refine ⟨h1, by rw [eP]; exact hb, hn, ?_⟩
    rw [eP, eW]
    conv => lhs; rw [hs, he, ← List.append_assoc]
    rw [trimT_point _ hb, List.append_assoc]
/-- a text that is accepted is the text of its units, but for zeros -/
theorem trim_text {s : List UInt8} (h : decOk s = true) (p : Nat) (n : Int) (e : decZ s * 10 ^ p = n * 10 ^ (decP s).length) : trimT (textD n p) = trimT s := by
  obtain ⟨a1, a2, a3, a4⟩ := decOk_parts h
  obtain ⟨b1, b2, b3, b4⟩ := decOk_parts (textD_ok n p)
  have hA : decN' s * 10 ^ p = n.natAbs * 10 ^ (decP s).length := by
    have e2 := congrArg Int.natAbs e
    rw [Int.natAbs_mul, Int.natAbs_mul, Int.natAbs_pow, Int.natAbs_pow] at e2
    have : (decZ s).natAbs = decN' s := by unfold decZ; split <;> omega
    rw [this] at e2
    exact e2
  have hp1 : 0 < 10 ^ p := Nat.pow_pos (by decide)
  have hp2 : 0 < 10 ^ (decP s).length := Nat.pow_pos (by decide)
  have hsg : isNeg (textD n p) = isNeg s := by
    rw [textD_neg]
    by_cases hg : isNeg s = true
    · rw [hg]
      have h0 := a3 hg
      have : decZ s < 0 := by unfold decZ; rw [if_pos hg]; omega
      have q1 : (0 : Int) < 10 ^ p := by exact_mod_cast hp1
      have q2 : (0 : Int) < 10 ^ (decP s).length := by exact_mod_cast hp2
      have h3 : decZ s * 10 ^ p < 0 := Int.mul_neg_of_neg_of_pos this q1
      rw [e] at h3
      refine decide_eq_true ?_
      rcases Int.lt_or_le n 0 with h4 | h4
      · exact h4
      · have := Int.mul_nonneg h4 (Int.le_of_lt q2); omega
    · have hg' : isNeg s = false := by cases hx : isNeg s <;> simp_all
      rw [hg']
      have : 0 ≤ decZ s := by unfold decZ; rw [if_neg hg]; omega
      have q1 : (0 : Int) < 10 ^ p := by exact_mod_cast hp1
      have q2 : (0 : Int) < 10 ^ (decP s).length := by exact_mod_cast hp2
      have h3 : 0 ≤ decZ s * 10 ^ p := Int.mul_nonneg this (Int.le_of_lt q1)
      rw [e] at h3
      refine decide_eq_false ?_
      intro h4
      have := Int.mul_neg_of_neg_of_pos h4 q2
      omega
  rw [a4, b4, hsg]
  rw [textD_W, textD_P] at *
  have hs := same_parts b1 a1 b2 a2 (by
    rw [tWP_nat, tP_len]
    exact hA.symm)
  rw [hs.1]
  unfold tail0
  rw [hs.2]
/-! How often 2 and 5 divide. -/
def mlt (p : Nat) : Nat → Nat → Nat × Nat
  | 0, a => (0, a)
  | f + 1, a => if a % p = 0 then ((mlt p f (a / p)).1 + 1, (mlt p f (a / p)).2) else (0, a)
theorem mlt_spec (p : Nat) (hp : 2 ≤ p) : ∀ (f a : Nat), 0 < a → a ≤ f → a = p ^ (mlt p f a).1 * (mlt p f a).2 ∧ (mlt p f a).2 % p ≠ 0
  | 0, a, h, hf => by omega
  | f + 1, a, h, hf => by
    unfold mlt
    by_cases h0 : a % p = 0
    · rw [if_pos h0]
      have h1 : a = p * (a / p) := by have := Nat.div_add_mod a p; omega
      have h2 : 0 < a / p := by
        rcases Nat.eq_zero_or_pos (a / p) with h2 | h2
        · rw [h2] at h1; omega
        · exact h2
      have h3 : a / p < a := Nat.div_lt_self h hp
      obtain ⟨i1, i2⟩ := mlt_spec p hp f (a / p) h2 (by omega)
      refine ⟨?_, i2⟩
      show a = p ^ ((mlt p f (a / p)).1 + 1) * (mlt p f (a / p)).2
      rw [Nat.pow_succ, Nat.mul_comm (p ^ _) p, Nat.mul_assoc, ← i1]; exact h1
    · rw [if_neg h0]; exact ⟨by simp, h0⟩
def finE (d : Nat) : Nat × Bool :=
  if (mlt 5 (mlt 2 d d).2 (mlt 2 d d).2).2 = 1 then (max (mlt 2 d d).1 (mlt 5 (mlt 2 d d).2 (mlt 2 d d).2).1, true) else (0, false)
theorem five_odd : ∀ k, 5 ^ k % 2 = 1
  | 0 => rfl
  | k + 1 => by have := five_odd k; rw [Nat.pow_succ]; omega
theorem two_five : ∀ k, 2 ^ k % 5 ≠ 0
  | 0 => by decide
  | k + 1 => by have := two_five k; rw [Nat.pow_succ]; omega
theorem ten_pow (k : Nat) : 10 ^ k = 2 ^ k * 5 ^ k := by rw [← Nat.mul_pow]
theorem finE_spec {d p : Nat} (hd : 0 < d) (h : finE d = (p, true)) : d ∣ 10 ^ p ∧ (0 < p → ¬ d ∣ 10 ^ (p - 1)) := by
  unfold finE at h
  split at h
  · next h1 =>
    obtain ⟨a1, a2⟩ := mlt_spec 2 (by decide) d d hd (Nat.le_refl _)
    have hp2 : 0 < (mlt 2 d d).2 := by
      rcases Nat.eq_zero_or_pos (mlt 2 d d).2 with e | e
      · rw [e] at a2; simp at a2
      · exact e
    obtain ⟨b1, b2⟩ := mlt_spec 5 (by decide) (mlt 2 d d).2 (mlt 2 d d).2 hp2 (Nat.le_refl _)
    rw [h1, Nat.mul_one] at b1
    obtain ⟨i, hi⟩ : ∃ i, i = (mlt 2 d d).1 := ⟨_, rfl⟩
    obtain ⟨j, hj⟩ : ∃ j, j = (mlt 5 (mlt 2 d d).2 (mlt 2 d d).2).1 := ⟨_, rfl⟩
    rw [← hj] at b1
    rw [← hi, b1] at a1
    rw [← hi, ← hj] at h
    injection h with h
    subst h
    rw [a1]
    refine ⟨?_, fun h0 hdv => ?_⟩
    · rw [ten_pow]
      exact Nat.mul_dvd_mul (Nat.pow_dvd_pow 2 (by omega)) (Nat.pow_dvd_pow 5 (by omega))
    · rw [ten_pow] at hdv
      by_cases hij : j ≤ i
      · have e : max i j = i := by omega
        rw [e] at hdv h0
        have h2 : 2 ^ i ∣ 2 ^ (i - 1) * 5 ^ (i - 1) := Nat.dvd_trans (Nat.dvd_mul_right _ _) hdv
        have e2 : 2 ^ i = 2 ^ (i - 1) * 2 := by rw [← Nat.pow_succ]; congr 1; omega
        rw [e2] at h2
        have := Nat.dvd_of_mul_dvd_mul_left (Nat.pow_pos (by decide)) h2
        have h5 := five_odd (i - 1)
        omega
      · have e : max i j = j := by omega
        rw [e] at hdv h0
        have h2 : 5 ^ j ∣ 5 ^ (j - 1) * 2 ^ (j - 1) := by rw [Nat.mul_comm]; exact Nat.dvd_trans (Nat.dvd_mul_left _ _) hdv
        have e2 : 5 ^ j = 5 ^ (j - 1) * 5 := by rw [← Nat.pow_succ]; congr 1; omega
        rw [e2] at h2
        have := Nat.dvd_of_mul_dvd_mul_left (Nat.pow_pos (by decide)) h2
        have h5 := two_five (j - 1)
        omega
  · cases h
def tenQ (p : Nat) : Rat := ((10 ^ p : Nat) : Int)
theorem den_ten (q : Rat) (p : Nat) : (q * tenQ p).den = 1 ↔ q.den ∣ 10 ^ p := by
  have hm := mul_den q
  have hd := den_pos' q
  constructor
  · intro h
    have h1 := (den_one _).1 h
    obtain ⟨z, hz⟩ : ∃ z, z = (q * tenQ p).floor := ⟨_, rfl⟩
    rw [← hz] at h1
    have h2 : ((q.num * (10 ^ p : Nat) : Int) : Rat) = ((z * q.den : Int) : Rat) := by
      rw [Rat.intCast_mul, Rat.intCast_mul, ← h1, ← hm]
      unfold tenQ
      grind
    have h3 := Rat.intCast_inj.1 h2
    have h4 : (q.den : Int) ∣ q.num * (10 ^ p : Nat) := ⟨z, by rw [h3, Int.mul_comm]⟩
    have h5 : q.den ∣ q.num.natAbs * 10 ^ p := by
      have := Int.natAbs_dvd_natAbs.2 h4
      rwa [Int.natAbs_natCast, Int.natAbs_mul, Int.natAbs_natCast] at this
    exact (Nat.Coprime.symm q.reduced).dvd_of_dvd_mul_left h5
  · rintro ⟨k, hk⟩
    have : q * tenQ p = ((q.num * k : Int) : Rat) := by
      unfold tenQ
      rw [hk, Int.natCast_mul, Rat.intCast_mul, Rat.intCast_mul, ← hm]
      grind
    rw [this]; exact Rat.den_intCast _
end Go.Proofs.YtmmhimgkpfcokaaGreatDoor
