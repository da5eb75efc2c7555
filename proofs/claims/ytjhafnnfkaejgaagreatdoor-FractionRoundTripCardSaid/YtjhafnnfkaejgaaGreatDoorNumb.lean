/- Plain arithmetic: the texts of groups, reading groups, the guess of a group. -/
import Derived.Test.YtjhafnnfkaejgaaGreatDoorNum
namespace Go.Proofs.YtjhafnnfkaejgaaGreatDoor
namespace Num

/-! Texts of groups. -/
def fmt (n : Nat) : List UInt8 := if n = 0 then [48] else dec n
def pad (k : Nat) (n : Nat) : List UInt8 := List.replicate (k - (fmt n).length) 48 ++ fmt n
theorem fmt_len_le (n k : Nat) (hk : 0 < k) (h : n < 10 ^ k) : (fmt n).length ≤ k := by
  unfold fmt; split
  · simp; omega
  · exact dec_len_le _ _ h
theorem fmt_len_pos (n : Nat) : 0 < (fmt n).length := by
  unfold fmt; split
  · simp
  · rename_i h; rw [List.length_pos_iff, Ne, dec_eq_nil]; exact h
theorem pad_len (k n : Nat) (hk : 0 < k) (h : n < 10 ^ k) : (pad k n).length = k := by
  have := fmt_len_le n k hk h
  unfold pad; simp; omega
theorem pad_zero (n : Nat) : pad 0 n = fmt n := by simp [pad]
theorem fmt_step (q d : Nat) (hd : d < 10) (hq : q ≠ 0) : fmt (10 * q + d) = fmt q ++ [dg d] := by
  unfold fmt
  rw [if_neg (by omega), if_neg hq, dec_step _ _ hd (by omega)]
theorem fmt_digit (d : Nat) (hd : d < 10) : fmt d = [dg d] := by
  unfold fmt
  by_cases h : d = 0
  · subst h; rfl
  · rw [if_neg h, dec_pos d h, show d / 10 = 0 by omega]; rfl
theorem pad_step (k q d : Nat) (hk : 0 < k) (hd : d < 10) (h : q < 10 ^ k) : pad (k + 1) (10 * q + d) = pad k q ++ [dg d] := by
  by_cases hq : q = 0
  · subst hq
    have h1 : fmt (10 * 0 + d) = [dg d] := by rw [show 10 * 0 + d = d by omega]; exact fmt_digit d hd
    unfold pad
    rw [h1]
    have h2 : fmt 0 = [48] := rfl
    rw [h2]
    simp only [List.length_cons, List.length_nil, Nat.zero_add, Nat.add_sub_cancel]
    rw [show List.replicate (k - 1) (48 : UInt8) ++ [48] = List.replicate k 48 by rw [← List.replicate_succ']; congr 1; omega]
  · have h1 := fmt_step q d hd hq
    unfold pad
    rw [h1]
    simp
theorem dec_pad (k q r : Nat) (hk : 0 < k) (hq : q ≠ 0) (hr : r < 10 ^ k) : dec (q * 10 ^ k + r) = dec q ++ pad k r := by
  obtain ⟨j, rfl⟩ : ∃ j, k = j + 1 := ⟨k - 1, by omega⟩
  clear hk
  induction j generalizing r with
  | zero =>
    have h1 : r < 10 := by simpa using hr
    have h2 : pad 1 r = [dg r] := by unfold pad; rw [fmt_digit r h1]; simp
    rw [show (0 + 1 : Nat) = 1 from rfl, h2, show q * 10 ^ 1 + r = 10 * q + r by omega, dec_step _ _ h1 (by omega)]
  | succ j ih =>
    have e : r = 10 * (r / 10) + r % 10 := by omega
    have hr2 : r / 10 < 10 ^ (j + 1) := by rw [Nat.pow_succ] at hr; omega
    have h1 := ih (r / 10) hr2
    have h2 : q * 10 ^ (j + 1 + 1) + r = 10 * (q * 10 ^ (j + 1) + r / 10) + r % 10 := by
      rw [Nat.pow_succ 10 (j + 1), ← Nat.mul_assoc]; omega
    have hpos : 0 < 10 ^ (j + 1) := Nat.pow_pos (by omega)
    have hq2 : 0 < q * 10 ^ (j + 1) := Nat.mul_pos (by omega) hpos
    rw [h2, dec_step _ _ (by omega) (by omega), h1]
    conv => rhs; rw [e]
    rw [pad_step (j + 1) (r / 10) (r % 10) (by omega) (by omega) hr2, List.append_assoc]
/-- the text of groups, the highest one first -/
def txt : List Nat → List UInt8
  | [] => []
  | g :: l => if l = [] then fmt g else txt l ++ pad 9 g
theorem txt_dec (l : List Nat) (hs : small l) (hn : norm l) : txt l = dec (gv l) := by
  induction l with
  | nil => rfl
  | cons g l ih =>
    have hg : g < BASE := hs g (by simp)
    have hs' : small l := fun x hx => hs x (by simp [hx])
    by_cases hl : l = []
    · subst hl
      simp only [norm, List.getLast?_singleton, ne_eq, Option.some.injEq] at hn
      simp only [txt, gv, if_true, Nat.mul_zero, Nat.add_zero]
      unfold fmt; rw [if_neg hn]
    · have hn' : norm l := by
        unfold norm at *
        cases l with
        | nil => simp at hl
        | cons a t => simpa [List.getLast?_cons_cons] using hn
      have h0 : gv l ≠ 0 := by
        intro e
        have := grp_of l hs' hn'
        rw [e, grp_zero] at this
        exact hl this.symm
      simp only [txt]
      rw [if_neg hl, ih hs' hn', gv, show g + BASE * gv l = gv l * 10 ^ 9 + g by unfold BASE; omega]
      exact (dec_pad 9 _ _ (by omega) h0 (by unfold BASE at hg; omega)).symm
theorem txt_grp (n : Nat) : txt (grp n) = dec n := by rw [txt_dec _ (grp_small n) (grp_norm n), gv_grp]
theorem txt_drop (l : List Nat) (k : Nat) (h : k + 1 < l.length) : txt (l.drop k) = txt (l.drop (k + 1)) ++ pad 9 l[k] := by
  rw [List.drop_eq_getElem_cons (by omega), txt, if_neg]
  intro e
  have := congrArg List.length e
  simp at this
  omega
theorem txt_last (l : List Nat) (x : Nat) (h : l[l.length - 1]? = some x) : txt (l.drop (l.length - 1)) = fmt x := by
  obtain ⟨hk, he⟩ := List.getElem?_eq_some_iff.1 h
  rw [List.drop_eq_getElem_cons hk, he, List.drop_of_length_le (by omega)]
  rfl

/-! Reading groups off digits. -/
theorem nat_groups (s : List UInt8) (e : Nat) (he : e ≤ s.length) : nat (s.take e) = nat (s.take (e - 9)) * 10 ^ (e - (e - 9)) + nat ((s.take e).drop (e - 9)) := by
  have h : s.take e = s.take (e - 9) ++ (s.take e).drop (e - 9) := by
    have := List.take_append_drop (e - 9) (s.take e)
    rw [List.take_take, Nat.min_eq_left (by omega)] at this
    exact this.symm
  conv => lhs; rw [h]
  rw [nat_append]
  simp [Nat.min_eq_left he]
/-- the groups that 'read' has after the digits from e on -/
def readG (s : List UInt8) : Nat → List Nat
  | 0 => []
  | f + 1 => if s = [] then [] else nat (s.drop (s.length - 9)) :: readG (s.take (s.length - 9)) f
theorem readG_grp (f : Nat) (s : List UInt8) (hf : s.length ≤ f) (hd : s.all isDig = true) (h0 : s.head? ≠ some 48) : readG s f = grp (nat s) := by
  induction f generalizing s with
  | zero =>
    have : s = [] := List.eq_nil_of_length_eq_zero (by omega)
    subst this; rfl
  | succ f ih =>
    unfold readG
    by_cases hs : s = []
    · subst hs; rfl
    · rw [if_neg hs]
      have hl : 0 < s.length := List.length_pos_iff.2 hs
      have hd1 : (s.take (s.length - 9)).all isDig = true := by
        rw [List.all_eq_true] at *; intro x hx; exact hd x (List.mem_of_mem_take hx)
      have hd2 : (s.drop (s.length - 9)).all isDig = true := by
        rw [List.all_eq_true] at *; intro x hx; exact hd x (List.mem_of_mem_drop hx)
      have h1 : (s.take (s.length - 9)).head? ≠ some 48 := by
        cases s with
        | nil => simp at hs
        | cons a t =>
          cases h : (a :: t).length - 9 with
          | zero => simp
          | succ k => simpa using h0
      have hne : nat s ≠ 0 := by
        intro e
        have h2 := dec_nat s hd
        rw [e, dec_zero] at h2
        unfold sig at h2
        cases s with
        | nil => simp at hs
        | cons a t =>
          simp at h0
          rw [List.dropWhile_cons] at h2
          simp [h0] at h2
      have h2 := nat_groups s s.length (Nat.le_refl _)
      rw [List.take_length] at h2
      have hlt := nat_lt _ hd2
      have hlen : (s.drop (s.length - 9)).length = s.length - (s.length - 9) := by simp
      rw [hlen] at hlt
      have hlt9 : 10 ^ (s.length - (s.length - 9)) ≤ 10 ^ 9 := Nat.pow_le_pow_right (by omega) (by omega)
      have h9 : (10 : Nat) ^ 9 = BASE := rfl
      rw [ih _ (by simp; omega) hd1 h1, grp_pos _ hne]
      by_cases hc : 9 ≤ s.length
      · have e9 : s.length - (s.length - 9) = 9 := by omega
        rw [e9, h9] at h2
        rw [e9, h9] at hlt
        unfold BASE at *
        rw [show nat s % 1000000000 = nat (s.drop (s.length - 9)) by omega, show nat s / 1000000000 = nat (s.take (s.length - 9)) by omega]
      · have e0 : s.length - 9 = 0 := by omega
        rw [e0] at h2 hlt hlt9 ⊢
        simp only [List.take_zero, List.drop_zero, nat_nil, Nat.zero_mul, Nat.zero_add, Nat.sub_zero] at h2 hlt hlt9 ⊢
        unfold BASE at *
        rw [show nat s % 1000000000 = nat s by omega, show nat s / 1000000000 = 0 by omega]

/-! A row that is worked through from its beginning. -/
theorem row_at {ps l t : List Nat} {k x : Nat} (hp : ps.length = k) (hx : l[k]? = some x) : (ps ++ (l.drop k ++ t))[k]? = some x := by
  obtain ⟨hk, he⟩ := List.getElem?_eq_some_iff.1 hx
  rw [List.getElem?_append_right (by omega), hp, Nat.sub_self, List.drop_eq_getElem_cons hk, he]; rfl
theorem row_set {ps l t : List Nat} {k : Nat} (hp : ps.length = k) (hk : k < l.length) (y : Nat) : (ps ++ (l.drop k ++ t)).set k y = (ps ++ [y]) ++ (l.drop (k + 1) ++ t) := by
  have e : (l.drop k ++ t).set 0 y = y :: (l.drop (k + 1) ++ t) := by rw [List.drop_eq_getElem_cons hk]; rfl
  rw [List.set_append_right _ _ (by omega), hp, Nat.sub_self, e]; simp
theorem small_snoc {l : List Nat} {x : Nat} (h : small l) (hx : x < BASE) : small (l ++ [x]) := small_append h (fun y hy => by simp at hy; omega)
theorem gv_take_of {l : List Nat} {k x : Nat} (h : l[k]? = some x) : gv (l.take (k + 1)) = gv (l.take k) + BASE ^ k * x := by
  obtain ⟨hk, rfl⟩ := List.getElem?_eq_some_iff.1 h
  exact gv_take_succ l k hk
theorem gv_take_all {l : List Nat} {k : Nat} (h : l.length ≤ k) : gv (l.take (k + 1)) = gv (l.take k) := by
  rw [List.take_of_length_le h, List.take_of_length_le (by omega)]
/-- one step of addition: t is the sum of the groups and the carry -/
theorem plus_step (P c t V x y W : Nat) (hV : P + W * c = V) (ht : t = x + c + y) : P + W * (t % BASE) + W * BASE * (t / BASE) = V + W * x + W * y := by
  have h1 : W * (t % BASE) + W * BASE * (t / BASE) = W * t := by
    rw [Nat.mul_assoc, ← Nat.mul_add, Nat.mod_add_div]
  have h2 : W * t = W * x + W * c + W * y := by rw [ht, Nat.mul_add, Nat.mul_add]
  omega

/-! Division of one more group: Knuth's guess. -/
/-- what the guess of a group is: with the three highest groups u of the rest and the two highest ones v of the divisor -/
theorem guess_ge (U V u v P ul vl q : Nat) (hU : U = u * P + ul) (hV : V = v * P + vl) (hul : ul < P) (hq : q * V ≤ U) : q * v ≤ u := by
  rcases Nat.lt_or_ge u (q * v) with h | h
  · have h1 : (u + 1) * P ≤ q * v * P := Nat.mul_le_mul_right _ h
    have h2 : q * V = q * v * P + q * vl := by rw [hV, Nat.mul_add, Nat.mul_assoc]
    rw [Nat.add_mul] at h1
    omega
  · exact h
theorem guess_le (U V u v P ul vl g : Nat) (hU : U = u * P + ul) (hV : V = v * P + vl) (hvl : vl < P) (hg : g * v ≤ u) (hgB : g ≤ BASE) (hPV : BASE * P ≤ V) : g * V ≤ U + V := by
  have h1 : g * v * P ≤ u * P := Nat.mul_le_mul_right _ hg
  have h2 : g * V = g * v * P + g * vl := by rw [hV, Nat.mul_add, Nat.mul_assoc]
  have h3 : g * vl ≤ BASE * P := Nat.mul_le_mul hgB (by omega)
  omega
theorem sub_step (t j x l br pw : Nat) (hx : x < BASE) :
    (if x < l % BASE then x + BASE - l % BASE else x - l % BASE) + l + (t + j) * 0 + pw * 0 = x + BASE * (l / BASE + if x < l % BASE then 1 else 0) + br * 0 := by
  split
  · have := Nat.mod_lt l (show 0 < BASE by unfold BASE; omega); unfold BASE at *; omega
  · unfold BASE at *; omega
end Num
end Go.Proofs.YtjhafnnfkaejgaaGreatDoor
