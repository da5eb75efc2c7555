/- Ba: num numb mag cut shelf lib inta text plus minus single times diva knuth -/
import Derived.Test.YtgnppdkeiihlfaaGreatDoorRows
import Derived.WalkKit
import Derived.WalkSpells
import Derived.WalkLawsBesides
import Derived.Deep.QuietTactic
import Derived.BigQuiet
import Derived.Lib.Hide
import Derived.Lib.ItoaMem
import Derived.Laws.Rows
import Derived.Laws.MakeOwn
import Derived.Laws.OwnMore
import Derived.Laws.CopyOwn
import Derived.Shelf.Strings.Builder1
import Derived.Shelf.Strings.SlTrimAscii
import Derived.Shelf.Small.Wraps
import Derived.Shelf.LaysM
import Derived.Shelf.Strconv.Itoa3
import Derived.Shelf.Pu.ParseUintPublic10
import Derived.Shelf.Strings.Repeat
import Derived.Test.YtgnppdkeiihlfaaGreatDoorProg
import Derived.Lib.LaidTab
import Derived.Lib.SmallJoins
import Derived.Deep.DeepCutAuto
/- Plain arithmetic of decimal texts and of groups of nine digits. No program in sight. -/
namespace Go.Proofs.YtgnppdkeiihlfaaGreatDoor
namespace Num
abbrev BASE : Nat := 1000000000
def isDig (b : UInt8) : Bool := decide (48 ≤ b.toNat) && decide (b.toNat ≤ 57)
def nat (l : List UInt8) : Nat := l.foldl (fun n b => 10 * n + (b.toNat - 48)) 0
def dg (k : Nat) : UInt8 := UInt8.ofNat (48 + k % 10)
def decN : Nat → Nat → List UInt8
  | 0, _ => []
  | f + 1, n => if n = 0 then [] else decN f (n / 10) ++ [dg n]
def dec (n : Nat) : List UInt8 := decN n n
def sig (l : List UInt8) : List UInt8 := l.dropWhile (· == 48)
def isNeg (s : List UInt8) : Bool := s.head? == some 45
def rest (s : List UInt8) : List UInt8 := if isNeg s then s.tail else s
def okDig (s : List UInt8) : Bool := (rest s).all isDig
def digs (s : List UInt8) : List UInt8 := if okDig s then sig (rest s) else []
def negB (s : List UInt8) : Bool := isNeg s && !(digs s).isEmpty
def val (s : List UInt8) : Int := if negB s then -(nat (digs s) : Int) else (nat (digs s) : Int)
def canon (z : Int) : List UInt8 := if z < 0 then 45 :: dec z.natAbs else dec z.natAbs
theorem dg_toNat (k : Nat) : (dg k).toNat = 48 + k % 10 := by
  unfold dg; rw [UInt8.toNat_ofNat']; omega
theorem isDig_dg (k : Nat) : isDig (dg k) = true := by
  have := dg_toNat k
  simp [isDig, this]; omega
theorem foldl_nat (l : List UInt8) (n : Nat) : l.foldl (fun n b => 10 * n + (b.toNat - 48)) n = n * 10 ^ l.length + nat l := by
  induction l generalizing n with
  | nil => simp [nat]
  | cons b l ih =>
    have h1 := ih (10 * n + (b.toNat - 48))
    have h2 := ih (10 * 0 + (b.toNat - 48))
    simp only [nat, List.foldl_cons, List.length_cons] at *
    rw [h1, h2, Nat.pow_succ, Nat.add_mul, Nat.add_mul]
    have : 10 * n * 10 ^ l.length = n * (10 ^ l.length * 10) := by rw [Nat.mul_comm 10 n, Nat.mul_assoc, Nat.mul_comm 10]
    omega
theorem nat_nil : nat [] = 0 := rfl
theorem nat_append (l m : List UInt8) : nat (l ++ m) = nat l * 10 ^ m.length + nat m := by
  unfold nat; rw [List.foldl_append]; exact foldl_nat m _
theorem nat_cons (b : UInt8) (l : List UInt8) : nat (b :: l) = (b.toNat - 48) * 10 ^ l.length + nat l := by
  have := nat_append [b] l
  simpa [nat] using this
theorem nat_snoc (l : List UInt8) (b : UInt8) : nat (l ++ [b]) = 10 * nat l + (b.toNat - 48) := by
  rw [nat_append]; simp [nat]; omega
theorem nat_lt (l : List UInt8) (h : l.all isDig = true) : nat l < 10 ^ l.length := by
  induction l with
  | nil => simp [nat]
  | cons b l ih =>
    simp only [List.all_cons, Bool.and_eq_true] at h
    have h1 := ih h.2
    have h2 : b.toNat - 48 ≤ 9 := by simp [isDig] at h; omega
    rw [nat_cons, List.length_cons, Nat.pow_succ]
    have := Nat.mul_le_mul_right (10 ^ l.length) h2
    omega
theorem nat_sig (l : List UInt8) : nat (sig l) = nat l := by
  induction l with
  | nil => rfl
  | cons b l ih =>
    unfold sig at *
    rw [List.dropWhile_cons]
    by_cases hb : b = 48
    · subst hb; simp [ih, nat_cons]
    · simp [hb]
theorem decN_eq (f g n : Nat) (hf : n ≤ f) (hg : n ≤ g) : decN f n = decN g n := by
  induction f generalizing g n with
  | zero =>
    have : n = 0 := by omega
    subst this
    cases g <;> simp [decN]
  | succ f ih =>
    cases g with
    | zero =>
      have : n = 0 := by omega
      subst this
      simp [decN]
    | succ g =>
      simp only [decN]
      by_cases h : n = 0
      · simp [h]
      · rw [if_neg h, if_neg h, ih g (n / 10) (by omega) (by omega)]
theorem dec_zero : dec 0 = [] := rfl
theorem dec_pos (n : Nat) (h : n ≠ 0) : dec n = dec (n / 10) ++ [dg n] := by
  unfold dec
  obtain ⟨m, rfl⟩ : ∃ m, n = m + 1 := ⟨n - 1, by omega⟩
  rw [decN, if_neg h, decN_eq m ((m + 1) / 10) _ (by omega) (by omega)]
theorem dec_step (q d : Nat) (hd : d < 10) (h : 10 * q + d ≠ 0) : dec (10 * q + d) = dec q ++ [dg d] := by
  rw [dec_pos _ h, show (10 * q + d) / 10 = q by omega]
  unfold dg
  rw [show (10 * q + d) % 10 = d % 10 by omega]
theorem nat_dec (n : Nat) : nat (dec n) = n := by
  induction n using Nat.strongRecOn with
  | ind n ih =>
    by_cases h : n = 0
    · subst h; rfl
    · rw [dec_pos n h, nat_snoc, ih _ (by omega), dg_toNat]; omega
theorem dec_digs (n : Nat) : (dec n).all isDig = true := by
  induction n using Nat.strongRecOn with
  | ind n ih =>
    by_cases h : n = 0
    · subst h; rfl
    · rw [dec_pos n h, List.all_append, ih _ (by omega)]; simp [isDig_dg]
theorem dec_eq_nil (n : Nat) : dec n = [] ↔ n = 0 := by
  constructor
  · intro h
    by_cases h0 : n = 0
    · exact h0
    · rw [dec_pos n h0] at h; simp at h
  · rintro rfl; rfl
theorem dec_head (n : Nat) : (dec n).head? ≠ some 48 := by
  induction n using Nat.strongRecOn with
  | ind n ih =>
    by_cases h : n = 0
    · subst h; simp [dec_zero]
    · rw [dec_pos n h]
      by_cases h1 : n / 10 = 0
      · rw [h1, dec_zero]
        intro h2
        simp at h2
        have := dg_toNat n
        rw [h2] at this
        simp at this
        omega
      · have h2 := ih (n / 10) (by omega)
        cases hh : dec (n / 10) with
        | nil => rw [dec_eq_nil] at hh; omega
        | cons a t => rw [hh] at h2; simpa using h2
theorem sig_dec (n : Nat) : sig (dec n) = dec n := by
  unfold sig
  have := dec_head n
  cases h : dec n with
  | nil => rfl
  | cons a t => rw [h] at this; simp at this; rw [List.dropWhile_cons]; simp [this]
theorem digit_of (b : UInt8) (h : isDig b = true) : dg (b.toNat - 48) = b := by
  simp [isDig] at h
  unfold dg
  rw [Nat.mod_eq_of_lt (by omega), show 48 + (b.toNat - 48) = b.toNat by omega]
  exact UInt8.ofNat_toNat
theorem dec_nat (l : List UInt8) (h : l.all isDig = true) : dec (nat l) = sig l := by
  obtain ⟨k, hk⟩ : ∃ k, k = l.length := ⟨_, rfl⟩
  induction k generalizing l with
  | zero =>
    have : l = [] := List.eq_nil_of_length_eq_zero hk.symm
    subst this; rfl
  | succ k ih =>
    rcases List.eq_nil_or_concat l with rfl | ⟨m, b, rfl⟩
    · simp at hk
    · simp only [List.concat_eq_append] at *
      simp only [List.all_append, Bool.and_eq_true, List.all_cons, List.all_nil, Bool.and_true] at h
      have hm := ih m h.1 (by simp at hk; omega)
      have hb := h.2
      simp [isDig] at hb
      rw [nat_snoc]
      by_cases h0 : 10 * nat m + (b.toNat - 48) = 0
      · have e1 : nat m = 0 := by omega
        have e2 : b = 48 := by
          apply UInt8.toNat_inj.1
          show b.toNat = 48
          omega
        rw [h0, dec_zero]
        rw [e1, dec_zero] at hm
        subst e2
        unfold sig at *
        rw [List.dropWhile_append, ← hm]; simp
      · rw [dec_step _ _ (by omega) h0, digit_of b h.2, hm]
        unfold sig at *
        rw [List.dropWhile_append]
        by_cases h1 : (List.dropWhile (fun x => x == 48) m) = []
        · rw [h1] at hm
          rw [dec_eq_nil] at hm
          have hne : b ≠ 48 := by rintro rfl; simp [hm] at h0
          simp [h1, hne]
        · rw [if_neg (by simpa using h1)]
theorem sig_digs (l : List UInt8) (h : l.all isDig = true) : (sig l).all isDig = true := by
  rw [← dec_nat l h]; exact dec_digs _
theorem dec_len_le (n k : Nat) (h : n < 10 ^ k) : (dec n).length ≤ k := by
  induction k generalizing n with
  | zero => have : n = 0 := by simpa using h
            subst this; simp [dec_zero]
  | succ k ih =>
    by_cases h0 : n = 0
    · subst h0; simp [dec_zero]
    · rw [dec_pos n h0, List.length_append]
      have := ih (n / 10) (by rw [Nat.pow_succ] at h; omega)
      simp; omega
theorem le_dec_len (n : Nat) : n < 10 ^ (dec n).length := by
  have := nat_lt _ (dec_digs n); rwa [nat_dec] at this
theorem dec_len_mono (m n : Nat) (h : m ≤ n) : (dec m).length ≤ (dec n).length :=
  dec_len_le _ _ (Nat.lt_of_le_of_lt h (le_dec_len n))
theorem digs_dec (s : List UInt8) : digs s = dec (val s).natAbs := by
  have h : (val s).natAbs = nat (digs s) := by unfold val; split <;> simp
  rw [h]
  unfold digs
  split
  · rename_i hd
    rw [dec_nat _ (sig_digs _ hd)]
    rw [← dec_nat _ hd, sig_dec]
  · rfl
theorem negB_val (s : List UInt8) : negB s = decide (val s < 0) := by
  have hd := digs_dec s
  unfold val
  by_cases h : negB s = true
  · rw [h]
    have h2 : digs s ≠ [] := by
      unfold negB at h; simp at h; exact h.2
    rw [hd] at h2
    have h3 : (val s).natAbs ≠ 0 := fun e => h2 (by rw [e]; rfl)
    have h4 : nat (digs s) = (val s).natAbs := by rw [hd, nat_dec]
    simp
    omega
  · have h' : negB s = false := by simpa using h
    rw [h']; simp
theorem canon_val (s : List UInt8) : canon (val s) = if negB s then 45 :: digs s else digs s := by
  rw [negB_val, digs_dec]
  unfold canon
  by_cases h : val s < 0 <;> simp [h]
theorem isNeg_canon (z : Int) : isNeg (canon z) = decide (z < 0) := by
  unfold canon isNeg
  by_cases h : z < 0
  · simp [h]
  · rw [if_neg h]
    have hd := dec_digs z.natAbs
    cases hc : dec z.natAbs with
    | nil => simp [h]
    | cons a t =>
      rw [hc] at hd
      simp [isDig] at hd
      have : a ≠ 45 := by rintro rfl; simp at hd
      simp [h, this]
theorem rest_canon (z : Int) : rest (canon z) = dec z.natAbs := by
  unfold rest
  rw [isNeg_canon]
  unfold canon
  by_cases h : z < 0 <;> simp [h]
theorem digs_canon (z : Int) : digs (canon z) = dec z.natAbs := by
  unfold digs okDig
  rw [rest_canon, dec_digs, sig_dec]; rfl
theorem negB_canon (z : Int) : negB (canon z) = decide (z < 0) := by
  unfold negB
  rw [digs_canon, isNeg_canon]
  by_cases h : z < 0
  · have : dec z.natAbs ≠ [] := by rw [Ne, dec_eq_nil]; omega
    simp [h, this]
  · simp [h]
theorem val_canon (z : Int) : val (canon z) = z := by
  unfold val
  rw [negB_canon, digs_canon, nat_dec]
  by_cases h : z < 0 <;> simp [h] <;> omega
theorem canon_inj {y z : Int} (h : canon y = canon z) : y = z := by rw [← val_canon y, h, val_canon]
theorem canon_zero : canon 0 = [] := rfl
theorem canon_eq_nil (z : Int) : canon z = [] ↔ z = 0 := by
  constructor
  · intro h; exact canon_inj (h.trans canon_zero.symm)
  · rintro rfl; rfl
theorem canon_len_le (z : Int) (k : Nat) (h : z.natAbs < 10 ^ k) : (canon z).length ≤ k + 1 := by
  have := dec_len_le _ _ h
  unfold canon; split <;> simp <;> omega
theorem val_lt (s : List UInt8) : (val s).natAbs < 10 ^ s.length := by
  have h : (val s).natAbs = nat (digs s) := by unfold val; split <;> simp
  rw [h]
  have h1 : (digs s).all isDig = true := by rw [digs_dec]; exact dec_digs _
  have h2 := nat_lt _ h1
  have h3 : (digs s).length ≤ s.length := by
    unfold digs sig rest
    split
    · refine Nat.le_trans (List.dropWhile_sublist _).length_le ?_
      split <;> simp
    · simp
  exact Nat.lt_of_lt_of_le h2 (Nat.pow_le_pow_right (by omega) h3)
def grpN : Nat → Nat → List Nat
  | 0, _ => []
  | f + 1, n => if n = 0 then [] else n % BASE :: grpN f (n / BASE)
def grp (n : Nat) : List Nat := grpN n n
def gv : List Nat → Nat
  | [] => 0
  | g :: l => g + BASE * gv l
def small (l : List Nat) : Prop := ∀ x ∈ l, x < BASE
def norm (l : List Nat) : Prop := l.getLast? ≠ some 0
def cutZ (l : List Nat) : List Nat := (l.reverse.dropWhile (· == 0)).reverse
theorem grpN_eq (f g n : Nat) (hf : n ≤ f) (hg : n ≤ g) : grpN f n = grpN g n := by
  induction f generalizing g n with
  | zero =>
    have : n = 0 := by omega
    subst this
    cases g <;> simp [grpN]
  | succ f ih =>
    cases g with
    | zero =>
      have : n = 0 := by omega
      subst this
      simp [grpN]
    | succ g =>
      simp only [grpN]
      by_cases h : n = 0
      · simp [h]
      · rw [if_neg h, if_neg h, ih g (n / BASE) (by unfold BASE; omega) (by unfold BASE; omega)]
theorem grp_zero : grp 0 = [] := rfl
theorem grp_pos (n : Nat) (h : n ≠ 0) : grp n = n % BASE :: grp (n / BASE) := by
  unfold grp
  obtain ⟨m, rfl⟩ : ∃ m, n = m + 1 := ⟨n - 1, by omega⟩
  rw [grpN, if_neg h, grpN_eq m ((m + 1) / BASE) _ (by unfold BASE; omega) (by omega)]
theorem gv_grp (n : Nat) : gv (grp n) = n := by
  induction n using Nat.strongRecOn with
  | ind n ih =>
    by_cases h : n = 0
    · subst h; rfl
    · rw [grp_pos n h, gv, ih _ (by unfold BASE; omega)]; unfold BASE; omega
theorem grp_small (n : Nat) : small (grp n) := by
  induction n using Nat.strongRecOn with
  | ind n ih =>
    by_cases h : n = 0
    · subst h; intro x hx; simp [grp_zero] at hx
    · rw [grp_pos n h]
      intro x hx
      rcases List.mem_cons.1 hx with rfl | hx
      · unfold BASE; omega
      · exact ih _ (by unfold BASE; omega) x hx
theorem grp_eq_nil (n : Nat) : grp n = [] ↔ n = 0 := by
  constructor
  · intro h
    by_cases h0 : n = 0
    · exact h0
    · rw [grp_pos n h0] at h; simp at h
  · rintro rfl; rfl
theorem grp_norm (n : Nat) : norm (grp n) := by
  induction n using Nat.strongRecOn with
  | ind n ih =>
    by_cases h : n = 0
    · subst h; simp [norm, grp_zero]
    · rw [grp_pos n h]
      by_cases h1 : n / BASE = 0
      · rw [h1, grp_zero]; simp [norm]; unfold BASE at *; omega
      · have h2 := ih (n / BASE) (by unfold BASE; omega)
        unfold norm at *
        cases hh : grp (n / BASE) with
        | nil => rw [grp_eq_nil] at hh; omega
        | cons a t => rw [hh] at h2; simpa [List.getLast?_cons_cons] using h2
theorem grp_of (l : List Nat) (hs : small l) (hn : norm l) : grp (gv l) = l := by
  induction l with
  | nil => rfl
  | cons g l ih =>
    have hg : g < BASE := hs g (by simp)
    have hs' : small l := fun x hx => hs x (by simp [hx])
    by_cases hl : l = []
    · subst hl
      simp only [norm, List.getLast?_singleton, ne_eq, Option.some.injEq] at hn
      simp only [gv]
      rw [grp_pos _ (by unfold BASE at *; omega)]
      unfold BASE at *
      rw [show (g + 1000000000 * 0) / 1000000000 = 0 by omega, show (g + 1000000000 * 0) % 1000000000 = g by omega]; rfl
    · have hn' : norm l := by
        unfold norm at *
        cases l with
        | nil => simp at hl
        | cons a t => simpa [List.getLast?_cons_cons] using hn
      have ih' := ih hs' hn'
      have h0 : gv l ≠ 0 := by
        intro e
        rw [e, grp_zero] at ih'
        exact hl ih'.symm
      simp only [gv]
      rw [grp_pos _ (by unfold BASE at *; omega)]
      unfold BASE at *
      rw [show (g + 1000000000 * gv l) / 1000000000 = gv l by omega, show (g + 1000000000 * gv l) % 1000000000 = g by omega, ih']
theorem gv_append (l m : List Nat) : gv (l ++ m) = gv l + BASE ^ l.length * gv m := by
  induction l with
  | nil => simp [gv]
  | cons g l ih =>
    simp only [List.cons_append, gv, ih, List.length_cons, Nat.pow_succ, Nat.mul_add]
    have : BASE * (BASE ^ l.length * gv m) = BASE ^ l.length * BASE * gv m := by rw [← Nat.mul_assoc, Nat.mul_comm BASE]
    omega
theorem gv_snoc (l : List Nat) (x : Nat) : gv (l ++ [x]) = gv l + BASE ^ l.length * x := by rw [gv_append]; simp [gv]
theorem gv_lt (l : List Nat) (h : small l) : gv l < BASE ^ l.length := by
  induction l with
  | nil => simp [gv]
  | cons g l ih =>
    have h1 := ih (fun x hx => h x (by simp [hx]))
    have h2 : g < BASE := h g (by simp)
    simp only [gv, List.length_cons, Nat.pow_succ]
    have h3 : BASE * (gv l + 1) ≤ BASE * BASE ^ l.length := Nat.mul_le_mul_left _ h1
    rw [Nat.mul_comm BASE (BASE ^ l.length)] at h3
    rw [Nat.mul_add] at h3
    omega
theorem gv_ge (l : List Nat) (h : norm l) (hl : l ≠ []) : BASE ^ (l.length - 1) ≤ gv l := by
  rcases List.eq_nil_or_concat l with rfl | ⟨m, b, rfl⟩
  · exact absurd rfl hl
  · simp only [List.concat_eq_append] at *
    rw [gv_snoc]
    simp [norm] at h
    have : BASE ^ m.length * 1 ≤ BASE ^ m.length * b := Nat.mul_le_mul_left _ (by omega)
    simp
    omega
theorem cutZ_snoc_zero (l : List Nat) : cutZ (l ++ [0]) = cutZ l := by simp [cutZ]
theorem cutZ_snoc (l : List Nat) (x : Nat) (h : x ≠ 0) : cutZ (l ++ [x]) = l ++ [x] := by simp [cutZ, h]
theorem cutZ_nil : cutZ [] = [] := rfl
theorem gv_cutZ (l : List Nat) : gv (cutZ l) = gv l := by
  obtain ⟨k, hk⟩ : ∃ k, k = l.length := ⟨_, rfl⟩
  induction k generalizing l with
  | zero => have : l = [] := List.eq_nil_of_length_eq_zero hk.symm
            subst this; rfl
  | succ k ih =>
    rcases List.eq_nil_or_concat l with rfl | ⟨m, b, rfl⟩
    · rfl
    · simp only [List.concat_eq_append] at *
      by_cases hb : b = 0
      · subst hb; rw [cutZ_snoc_zero, ih m (by simp at hk; omega), gv_snoc]; simp
      · rw [cutZ_snoc _ _ hb]
theorem cutZ_norm (l : List Nat) : norm (cutZ l) := by
  obtain ⟨k, hk⟩ : ∃ k, k = l.length := ⟨_, rfl⟩
  induction k generalizing l with
  | zero => have : l = [] := List.eq_nil_of_length_eq_zero hk.symm
            subst this; simp [norm, cutZ]
  | succ k ih =>
    rcases List.eq_nil_or_concat l with rfl | ⟨m, b, rfl⟩
    · simp [norm, cutZ]
    · simp only [List.concat_eq_append] at *
      by_cases hb : b = 0
      · subst hb; rw [cutZ_snoc_zero]; exact ih m (by simp at hk; omega)
      · rw [cutZ_snoc _ _ hb]; simp [norm, hb]
theorem cutZ_small (l : List Nat) (h : small l) : small (cutZ l) := by
  intro x hx
  apply h
  unfold cutZ at hx
  rw [List.mem_reverse] at hx
  have := (List.dropWhile_sublist (· == 0) (l := l.reverse)).subset hx
  simpa using this
theorem cutZ_eq (l : List Nat) (h : small l) : cutZ l = grp (gv l) := by
  rw [← gv_cutZ l, grp_of _ (cutZ_small l h) (cutZ_norm l)]
theorem grp_len_le (n k : Nat) (h : n < BASE ^ k) : (grp n).length ≤ k := by
  by_cases h0 : grp n = []
  · simp [h0]
  · have h1 := gv_ge _ (grp_norm n) h0
    rw [gv_grp] at h1
    rcases Nat.lt_or_ge k (grp n).length with h2 | h2
    · have := Nat.pow_le_pow_right (n := BASE) (by unfold BASE; omega) (show k ≤ (grp n).length - 1 by omega)
      omega
    · exact h2
theorem lt_grp_len (n : Nat) : n < BASE ^ (grp n).length := by have := gv_lt _ (grp_small n); rwa [gv_grp] at this
theorem grp_len_lt (m n : Nat) (h : (grp m).length < (grp n).length) : m < n := by
  rcases Nat.lt_or_ge m n with h1 | h1
  · exact h1
  · have := grp_len_le n _ (Nat.lt_of_le_of_lt h1 (lt_grp_len m)); omega
theorem grp_len_mono (m n : Nat) (h : m ≤ n) : (grp m).length ≤ (grp n).length := grp_len_le _ _ (Nat.lt_of_le_of_lt h (lt_grp_len n))
theorem grp_inj {m n : Nat} (h : grp m = grp n) : m = n := by rw [← gv_grp m, h, gv_grp]
theorem small_append {l m : List Nat} (h : small l) (k : small m) : small (l ++ m) := fun x hx => by
  rcases List.mem_append.1 hx with h1 | h1
  · exact h x h1
  · exact k x h1
theorem small_take {l : List Nat} (h : small l) (k : Nat) : small (l.take k) := fun x hx => h x (List.mem_of_mem_take hx)
theorem small_drop {l : List Nat} (h : small l) (k : Nat) : small (l.drop k) := fun x hx => h x (List.mem_of_mem_drop hx)
theorem gv_split (l : List Nat) (k : Nat) (h : k ≤ l.length) : gv l = gv (l.take k) + BASE ^ k * gv (l.drop k) := by
  have := gv_append (l.take k) (l.drop k)
  rw [List.take_append_drop] at this
  rw [this, List.length_take, Nat.min_eq_left h]
theorem gv_take_succ (l : List Nat) (k : Nat) (h : k < l.length) : gv (l.take (k + 1)) = gv (l.take k) + BASE ^ k * l[k] := by
  rw [List.take_succ_eq_append_getElem h, gv_snoc, List.length_take, Nat.min_eq_left (by omega)]
theorem gv_drop (l : List Nat) (k : Nat) (h : k < l.length) : gv (l.drop k) = l[k] + BASE * gv (l.drop (k + 1)) := by
  rw [List.drop_eq_getElem_cons h, gv]
end Num
end Go.Proofs.YtgnppdkeiihlfaaGreatDoor
/- Plain arithmetic: the texts of groups, reading groups, the guess of a group. -/
namespace Go.Proofs.YtgnppdkeiihlfaaGreatDoor
namespace Num
def fmt (n : Nat) : List UInt8 := if n = 0 then [48] else dec n
def pad (k : Nat) (n : Nat) : List UInt8 := List.replicate (k - (fmt n).length) 48 ++ fmt n
theorem fmt_len_le (n k : Nat) (hk : 0 < k) (h : n < 10 ^ k) : (fmt n).length ≤ k := by
  unfold fmt; split
  · simp; omega
  · exact dec_len_le _ _ h
theorem pad_len (k n : Nat) (hk : 0 < k) (h : n < 10 ^ k) : (pad k n).length = k := by
  have := fmt_len_le n k hk h
  unfold pad; simp; omega
theorem fmt_step (q d : Nat) (hd : d < 10) (hq : q ≠ 0) : fmt (10 * q + d) = fmt q ++ [dg d] := by
  unfold fmt
  rw [if_neg (by omega), if_neg hq, dec_step _ _ hd (by omega)]
theorem fmt_digit (d : Nat) (hd : d < 10) : fmt d = [dg d] := by
  unfold fmt
  by_cases h : d = 0
  · subst h; rfl
  · rw [if_neg h, dec_pos d h, show d / 10 = 0 by omega]; rfl
theorem pad_step (k q d : Nat) (hk : 0 < k) (hd : d < 10) (h : q < 10 ^ k) : pad (k + 1) (10 * q + d) = pad k q ++ [dg d] := by
  by_cases hq : q = 0
  · subst hq
    have h1 : fmt (10 * 0 + d) = [dg d] := by rw [show 10 * 0 + d = d by omega]; exact fmt_digit d hd
    unfold pad
    rw [h1]
    have h2 : fmt 0 = [48] := rfl
    rw [h2]
    simp only [List.length_cons, List.length_nil, Nat.zero_add, Nat.add_sub_cancel]
    rw [show List.replicate (k - 1) (48 : UInt8) ++ [48] = List.replicate k 48 by rw [← List.replicate_succ']; congr 1; omega]
  · have h1 := fmt_step q d hd hq
    unfold pad
    rw [h1]
    simp
theorem dec_pad (k q r : Nat) (hk : 0 < k) (hq : q ≠ 0) (hr : r < 10 ^ k) : dec (q * 10 ^ k + r) = dec q ++ pad k r := by
  obtain ⟨j, rfl⟩ : ∃ j, k = j + 1 := ⟨k - 1, by omega⟩
  clear hk
  induction j generalizing r with
  | zero =>
    have h1 : r < 10 := by simpa using hr
    have h2 : pad 1 r = [dg r] := by unfold pad; rw [fmt_digit r h1]; simp
    rw [show (0 + 1 : Nat) = 1 from rfl, h2, show q * 10 ^ 1 + r = 10 * q + r by omega, dec_step _ _ h1 (by omega)]
  | succ j ih =>
    have e : r = 10 * (r / 10) + r % 10 := by omega
    have hr2 : r / 10 < 10 ^ (j + 1) := by rw [Nat.pow_succ] at hr; omega
    have h1 := ih (r / 10) hr2
    have h2 : q * 10 ^ (j + 1 + 1) + r = 10 * (q * 10 ^ (j + 1) + r / 10) + r % 10 := by
      rw [Nat.pow_succ 10 (j + 1), ← Nat.mul_assoc]; omega
    have hpos : 0 < 10 ^ (j + 1) := Nat.pow_pos (by omega)
    have hq2 : 0 < q * 10 ^ (j + 1) := Nat.mul_pos (by omega) hpos
    rw [h2, dec_step _ _ (by omega) (by omega), h1]
    conv => rhs; rw [e]
    rw [pad_step (j + 1) (r / 10) (r % 10) (by omega) (by omega) hr2, List.append_assoc]
def txt : List Nat → List UInt8
  | [] => []
  | g :: l => if l = [] then fmt g else txt l ++ pad 9 g
theorem txt_dec (l : List Nat) (hs : small l) (hn : norm l) : txt l = dec (gv l) := by
  induction l with
  | nil => rfl
  | cons g l ih =>
    have hg : g < BASE := hs g (by simp)
    have hs' : small l := fun x hx => hs x (by simp [hx])
    by_cases hl : l = []
    · subst hl
      simp only [norm, List.getLast?_singleton, ne_eq, Option.some.injEq] at hn
      simp only [txt, gv, if_true, Nat.mul_zero, Nat.add_zero]
      unfold fmt; rw [if_neg hn]
    · have hn' : norm l := by
        unfold norm at *
        cases l with
        | nil => simp at hl
        | cons a t => simpa [List.getLast?_cons_cons] using hn
      have h0 : gv l ≠ 0 := by
        intro e
        have := grp_of l hs' hn'
        rw [e, grp_zero] at this
        exact hl this.symm
      simp only [txt]
      rw [if_neg hl, ih hs' hn', gv, show g + BASE * gv l = gv l * 10 ^ 9 + g by unfold BASE; omega]
      exact (dec_pad 9 _ _ (by omega) h0 (by unfold BASE at hg; omega)).symm
theorem txt_drop (l : List Nat) (k : Nat) (h : k + 1 < l.length) : txt (l.drop k) = txt (l.drop (k + 1)) ++ pad 9 l[k] := by
  rw [List.drop_eq_getElem_cons (by omega), txt, if_neg]
  intro e
  have := congrArg List.length e
  simp at this
  omega
theorem txt_last (l : List Nat) (x : Nat) (h : l[l.length - 1]? = some x) : txt (l.drop (l.length - 1)) = fmt x := by
  obtain ⟨hk, he⟩ := List.getElem?_eq_some_iff.1 h
  rw [List.drop_eq_getElem_cons hk, he, List.drop_of_length_le (by omega)]
  rfl
theorem nat_groups (s : List UInt8) (e : Nat) (he : e ≤ s.length) : nat (s.take e) = nat (s.take (e - 9)) * 10 ^ (e - (e - 9)) + nat ((s.take e).drop (e - 9)) := by
  have h : s.take e = s.take (e - 9) ++ (s.take e).drop (e - 9) := by
    have := List.take_append_drop (e - 9) (s.take e)
    rw [List.take_take, Nat.min_eq_left (by omega)] at this
    exact this.symm
  conv => lhs; rw [h]
  rw [nat_append]
  simp [Nat.min_eq_left he]
def readG (s : List UInt8) : Nat → List Nat
  | 0 => []
  | f + 1 => if s = [] then [] else nat (s.drop (s.length - 9)) :: readG (s.take (s.length - 9)) f
theorem readG_grp (f : Nat) (s : List UInt8) (hf : s.length ≤ f) (hd : s.all isDig = true) (h0 : s.head? ≠ some 48) : readG s f = grp (nat s) := by
  induction f generalizing s with
  | zero =>
    have : s = [] := List.eq_nil_of_length_eq_zero (by omega)
    subst this; rfl
  | succ f ih =>
    unfold readG
    by_cases hs : s = []
    · subst hs; rfl
    · rw [if_neg hs]
      have hl : 0 < s.length := List.length_pos_iff.2 hs
      have hd1 : (s.take (s.length - 9)).all isDig = true := by
        rw [List.all_eq_true] at *; intro x hx; exact hd x (List.mem_of_mem_take hx)
      have hd2 : (s.drop (s.length - 9)).all isDig = true := by
        rw [List.all_eq_true] at *; intro x hx; exact hd x (List.mem_of_mem_drop hx)
      have h1 : (s.take (s.length - 9)).head? ≠ some 48 := by
        cases s with
        | nil => simp at hs
        | cons a t =>
          cases h : (a :: t).length - 9 with
          | zero => simp
          | succ k => simpa using h0
      have hne : nat s ≠ 0 := by
        intro e
        have h2 := dec_nat s hd
        rw [e, dec_zero] at h2
        unfold sig at h2
        cases s with
        | nil => simp at hs
        | cons a t =>
          simp at h0
          rw [List.dropWhile_cons] at h2
          simp [h0] at h2
      have h2 := nat_groups s s.length (Nat.le_refl _)
      rw [List.take_length] at h2
      have hlt := nat_lt _ hd2
      have hlen : (s.drop (s.length - 9)).length = s.length - (s.length - 9) := by simp
      rw [hlen] at hlt
      have hlt9 : 10 ^ (s.length - (s.length - 9)) ≤ 10 ^ 9 := Nat.pow_le_pow_right (by omega) (by omega)
      have h9 : (10 : Nat) ^ 9 = BASE := rfl
      rw [ih _ (by simp; omega) hd1 h1, grp_pos _ hne]
      by_cases hc : 9 ≤ s.length
      · have e9 : s.length - (s.length - 9) = 9 := by omega
        rw [e9, h9] at h2
        rw [e9, h9] at hlt
        unfold BASE at *
        rw [show nat s % 1000000000 = nat (s.drop (s.length - 9)) by omega, show nat s / 1000000000 = nat (s.take (s.length - 9)) by omega]
      · have e0 : s.length - 9 = 0 := by omega
        rw [e0] at h2 hlt hlt9 ⊢
        simp only [List.take_zero, List.drop_zero, nat_nil, Nat.zero_mul, Nat.zero_add, Nat.sub_zero] at h2 hlt hlt9 ⊢
        unfold BASE at *
        rw [show nat s % 1000000000 = nat s by omega, show nat s / 1000000000 = 0 by omega]
theorem row_at {ps l t : List Nat} {k x : Nat} (hp : ps.length = k) (hx : l[k]? = some x) : (ps ++ (l.drop k ++ t))[k]? = some x := by
  obtain ⟨hk, he⟩ := List.getElem?_eq_some_iff.1 hx
  rw [List.getElem?_append_right (by omega), hp, Nat.sub_self, List.drop_eq_getElem_cons hk, he]; rfl
theorem row_set {ps l t : List Nat} {k : Nat} (hp : ps.length = k) (hk : k < l.length) (y : Nat) : (ps ++ (l.drop k ++ t)).set k y = (ps ++ [y]) ++ (l.drop (k + 1) ++ t) := by
  have e : (l.drop k ++ t).set 0 y = y :: (l.drop (k + 1) ++ t) := by rw [List.drop_eq_getElem_cons hk]; rfl
  rw [List.set_append_right _ _ (by omega), hp, Nat.sub_self, e]; simp
theorem small_snoc {l : List Nat} {x : Nat} (h : small l) (hx : x < BASE) : small (l ++ [x]) := small_append h (fun y hy => by simp at hy; omega)
theorem gv_take_of {l : List Nat} {k x : Nat} (h : l[k]? = some x) : gv (l.take (k + 1)) = gv (l.take k) + BASE ^ k * x := by
  obtain ⟨hk, rfl⟩ := List.getElem?_eq_some_iff.1 h
  exact gv_take_succ l k hk
theorem gv_take_all {l : List Nat} {k : Nat} (h : l.length ≤ k) : gv (l.take (k + 1)) = gv (l.take k) := by
  rw [List.take_of_length_le h, List.take_of_length_le (by omega)]
theorem plus_step (P c t V x y W : Nat) (hV : P + W * c = V) (ht : t = x + c + y) : P + W * (t % BASE) + W * BASE * (t / BASE) = V + W * x + W * y := by
  have h1 : W * (t % BASE) + W * BASE * (t / BASE) = W * t := by
    rw [Nat.mul_assoc, ← Nat.mul_add, Nat.mod_add_div]
  have h2 : W * t = W * x + W * c + W * y := by rw [ht, Nat.mul_add, Nat.mul_add]
  omega
theorem guess_ge (U V u v P ul vl q : Nat) (hU : U = u * P + ul) (hV : V = v * P + vl) (hul : ul < P) (hq : q * V ≤ U) : q * v ≤ u := by
  rcases Nat.lt_or_ge u (q * v) with h | h
  · have h1 : (u + 1) * P ≤ q * v * P := Nat.mul_le_mul_right _ h
    have h2 : q * V = q * v * P + q * vl := by rw [hV, Nat.mul_add, Nat.mul_assoc]
    rw [Nat.add_mul] at h1
    omega
  · exact h
theorem guess_le (U V u v P ul vl g : Nat) (hU : U = u * P + ul) (hV : V = v * P + vl) (hvl : vl < P) (hg : g * v ≤ u) (hgB : g ≤ BASE) (hPV : BASE * P ≤ V) : g * V ≤ U + V := by
  have h1 : g * v * P ≤ u * P := Nat.mul_le_mul_right _ hg
  have h2 : g * V = g * v * P + g * vl := by rw [hV, Nat.mul_add, Nat.mul_assoc]
  have h3 : g * vl ≤ BASE * P := Nat.mul_le_mul hgB (by omega)
  omega
end Num
end Go.Proofs.YtgnppdkeiihlfaaGreatDoor
/- Words for the magnitudes of package integer in memory: a slice of uint64 at the head of a row. -/
namespace Go.Proofs.YtgnppdkeiihlfaaGreatDoor
open Go.RowKit Num
abbrev U (l : List Nat) : List Value := l.map fun (x : Nat) => Value.int .u64 (x : Int)
def sLen : Value → Nat
  | .slice _ n _ => n
  | _ => 0
@[simp] theorem sLen_slice (A : Option Addr) (n c : Nat) : sLen (.slice A n c) = n := rfl
theorem U_one (l : List Nat) : ∀ u ∈ U l, u.oneCell' = true := by
  intro u hu; simp at hu; obtain ⟨q, _, rfl⟩ := hu; rfl
section
variable {w w' : World} {base n c : Nat} {A : Option Addr} {l : List Nat} {e : TypeId}
theorem own_len (h : w.ownsRow base e 1 (.slice A n c) n (U l)) : l.length = n := by
  have := h.1; simpa using this
theorem own_cap (h : w.ownsRow base e 1 (.slice A n c) n (U l)) : n ≤ c ∧ c ≤ maxLen := by
  rcases h.2 with ⟨hv, hn⟩ | ⟨g, cap, cur, hv, _, _, h1, h2, _⟩
  · injection hv with _ h1 h2; subst h1 h2; exact ⟨by omega, by unfold maxLen; omega⟩
  · injection hv with _ _ h3; subst h3; exact ⟨h1, h2⟩
theorem own_at {k : Nat} (h : w.ownsRow base e 1 (.slice A n c) n (U l)) (hk : k < n) :
    ∃ (g x : Nat), A = some ⟨g, 0, none⟩ ∧ l[k]? = some x ∧ base ≤ g ∧ g < w.heap.size ∧ w.cell? ⟨g, k, none⟩ = some (.int .u64 (x : Int)) ∧ w.frozen? ⟨g, k, none⟩ = false := by
  have hl := own_len h
  rcases h.2 with ⟨_, hn⟩ | ⟨g, cap, cur, hv, hb, hh, _⟩
  · omega
  · injection hv with h1 _ h3
    subst h1 h3
    refine ⟨g, l[k]'(by omega), rfl, List.getElem?_eq_getElem (by omega), hb, ?_, ?_, h.frozenAt k⟩
    · exact (Array.getElem?_eq_some_iff.1 hh).1
    · rw [h.cellAt k (by omega)]
      simp [U, List.getElem?_eq_getElem (show k < l.length by omega)]
theorem own_below {v : Value} {xs : List Value} (h : w.ownsRow base e 1 v n xs) (hb : Below w.heap.size w w') : w'.ownsRow base e 1 v n xs := by
  refine ⟨h.1, ?_⟩
  rcases h.2 with h0 | ⟨g, cap, cur, hv, hb1, hh, hr⟩
  · exact .inl h0
  · exact .inr ⟨g, cap, cur, hv, hb1, (hb.block g (Array.getElem?_eq_some_iff.1 hh).1).trans hh, hr⟩
theorem own_base {base' : Nat} {v : Value} {xs : List Value} (h : w.ownsRow base e 1 v n xs) (hb : base' ≤ base) : w.ownsRow base' e 1 v n xs := by
  refine ⟨h.1, ?_⟩
  rcases h.2 with h0 | ⟨g, cap, cur, hv, hb1, hr⟩
  · exact .inl h0
  · exact .inr ⟨g, cap, cur, hv, by omega, hr⟩
theorem own_take (h : w.ownsRow base e 1 (.slice A n c) n (U l)) {k : Nat} (hk : k ≤ n) (hA : A ≠ none) : w.ownsRow base e 1 (.slice A k c) k (U (l.take k)) := by
  have hl := own_len h
  refine ⟨by simp; omega, ?_⟩
  rcases h.2 with ⟨hv, _⟩ | ⟨g, cap, cur, hv, hb1, hh, h1, h2, h3, h4⟩
  · injection hv with h5; exact absurd h5 hA
  · injection hv with h5 _ h6
    subst h5 h6
    refine .inr ⟨g, c, cur, rfl, hb1, hh, by omega, h2, h3, ?_⟩
    rw [show k * 1 = min k (n * 1) by omega, ← List.take_take, h4]
    simp
end
theorem own_at_below {w w' : World} {base n c k : Nat} {A : Option Addr} {l : List Nat} {e : TypeId} (h : w.ownsRow base e 1 (.slice A n c) n (U l)) (hb : Below w.heap.size w w') (hk : k < n) :
    ∃ (g x : Nat), A = some ⟨g, 0, none⟩ ∧ l[k]? = some x ∧ g < w.heap.size ∧ w'.cell? ⟨g, k, none⟩ = some (.int .u64 (x : Int)) := by
  obtain ⟨g, x, h1, h2, _, h3, h4, _⟩ := own_at h hk
  exact ⟨g, x, h1, h2, h3, (hb.cell (p := ⟨g, k, none⟩) h3).trans h4⟩
theorem own_block_ge {w : World} {base n : Nat} {e : TypeId} {v : Value} {xs : List Value} (h : w.ownsRow base e 1 v n xs) (g : Nat) (hg : v.ownBlock = some g) : base ≤ g := by
  rcases h.2 with ⟨rfl, _⟩ | ⟨g', cap, cur, rfl, hb, _⟩
  · simp [Value.ownBlock] at hg
  · simp only [Value.ownBlock, Option.some.injEq] at hg; omega
theorem own_form {w : World} {base n : Nat} {e : TypeId} {v : Value} {xs : List Value} (h : w.ownsRow base e 1 v n xs) : ∃ A c, v = .slice A n c := by
  rcases h.2 with ⟨rfl, h0⟩ | ⟨g, cap, cur, rfl, _⟩
  · exact ⟨none, 0, by rw [h0]⟩
  · exact ⟨_, _, rfl⟩
theorem blk_new {w wr : World} {o : Obj} (h : Below (w.heap.size + 1) (w.alloc o) wr) : wr.heap[w.heap.size]? = some o :=
  (h.block w.heap.size (by omega)).trans (heap_alloc_new w o)
theorem blk_cell {w : World} {g : Nat} {cs : Array Value} {t : TypeId} (h : w.heap[g]? = some (.cells cs t (0, 0))) (i : Nat) : w.cell? ⟨g, i, none⟩ = cs[i]? := cell_of_row w g i cs t (0, 0) h
theorem blk_frozen {w : World} {g : Nat} {cs : Array Value} {t : TypeId} (h : w.heap[g]? = some (.cells cs t (0, 0))) (i : Nat) : w.frozen? ⟨g, i, none⟩ = false := by simp [World.frozen?, h]
theorem below_of_alloc {w wr : World} {o : Obj} (h : Below (w.heap.size + 1) (w.alloc o) wr) : Below w.heap.size w wr :=
  ((Below.refl _ w).alloc (Nat.le_refl _) o).trans (h.mono (Nat.le_succ _))
def Row (w : World) (g : Nat) (xs : List Nat) : Prop := w.heap[g]? = some (.cells (U xs).toArray 151 (0, 0))
section
variable {w w' : World} {g : Nat} {xs : List Nat}
theorem Row.cell (h : Row w g xs) {k x : Nat} (hx : xs[k]? = some x) : w.cell? ⟨g, k, none⟩ = some (.int .u64 (x : Int)) := by
  rw [blk_cell h k]; simp [hx]
theorem Row.frozen (h : Row w g xs) (k : Nat) : w.frozen? ⟨g, k, none⟩ = false := blk_frozen h k
theorem Row.set_ (h : Row w g xs) (k y : Nat) : Row (w.setCell ⟨g, k, none⟩ (.int .u64 (y : Int))) g (xs.set k y) := by
  unfold Row at h ⊢
  simp [World.setCell, Array.getElem?_modify, h, List.map_set]
theorem Row.setI (h : Row w g xs) (k y : Nat) {z : Int} (hz : z = y) : Row (w.setCell ⟨g, k, none⟩ (.int .u64 z)) g (xs.set k y) := by
  subst hz; exact h.set_ k y
theorem Row.drew (h : Row w g xs) : Row w.drew g xs := h
theorem Row.own (h : Row w g xs) {base n : Nat} (hb : base ≤ g) (hn : n ≤ xs.length) (hm : xs.length ≤ maxLen) : w.ownsRow base 151 1 (.slice (some ⟨g, 0, none⟩) n xs.length) n (U (xs.take n)) := by
  refine ⟨by simp; omega, .inr ⟨g, xs.length, (U xs).toArray, rfl, hb, h, hn, hm, by simp, ?_⟩⟩
  simp [List.map_take]
end
theorem run_make_rowN {P : Program} (t e : TypeId) (i : TypeInfo) (z : Value) (ht : P.underlying t = some (.slice e)) (hi : P.info? e = some i) (hz : i.zero = some z)
    (kl kc : IntKind) (n c : Nat) (hnc : n ≤ c) (hbytes : i.bytes * c ≤ 281474976710656) (h63 : c ≤ 9223372036854775807) (w : World) :
    (Instr.makeSlice t (.int kl (n : Int)) (.int kc (c : Int))).run P w = .ok (.slice (some ⟨w.heap.size, 0, none⟩) n c) (w.alloc (.cells (madeCells z.cells (c * i.size)) e)) := by
  have hb : (i.bytes : Int) * (c : Int) ≤ 281474976710656 := by
    have h : ((i.bytes * c : Nat) : Int) ≤ 281474976710656 := by omega
    rwa [Int.natCast_mul] at h
  have hr := run_make (P := P) w t e i z ht hi hz kl kc n c (by omega) (by omega) hb (by omega)
  simp only [Int.toNat_natCast] at hr
  exact hr
theorem info_u64 : (Tryz.prog.info? 151).map (fun i => (i.zero, i.size, i.bytes)) = some (some (.int .u64 0), 1, 8) := by kernel_rfl
def zrow (c : Nat) : Obj := .cells (U (List.replicate c 0)).toArray 151
theorem make_u64 (t : TypeId) (ht : Tryz.prog.underlying t = some (.slice 151)) (n c : Nat) (zc : Int) (hzc : zc = c) (hnc : n ≤ c) (hc : c ≤ 10000000000) (w : World) :
    (Instr.makeSlice t (.int .i64 (n : Int)) (.int .i64 zc)).run Tryz.prog w = .ok (.slice (some ⟨w.heap.size, 0, none⟩) n c) (w.alloc (zrow c)) := by
  subst hzc
  obtain ⟨i0, hi, hz0, hz1, hz2⟩ := info_parts info_u64
  rw [run_make_rowN t 151 i0 (.int .u64 0) ht hi hz0 .i64 .i64 n c hnc (by rw [hz2]; omega) (by omega) w, hz1]
  have : madeCells (Value.int .u64 0).cells (c * 1) = (U (List.replicate c 0)).toArray := by
    apply Array.ext'
    show (madeCells #[Value.int .u64 0] (c * 1)).toList = _
    rw [toList_madeCells_one]; simp
  rw [this]; rfl
theorem splice_zero (c : Nat) (l : List Nat) : splice (U (List.replicate c 0)) 0 (U l) = U (l ++ List.replicate (c - l.length) 0) := by
  simp [splice]
theorem size_u64 : (Tryz.prog.info? 151).map (·.size) = some 1 := by kernel_rfl
theorem wp_copy_row {w : World} {ops : Array Oper} {rest : List Oper} {o : Oper} {act : Act} {Q : Exit → Act → World → Prop} (hgd : o.guard = none) (d s : Operand) (T : TypeId)
    (ho : o.op = .call { callee := .builtin .copy, args := #[d, s], argTypes := #[T, T] }) (hu : Tryz.prog.underlying T = some (.slice 151))
    (A : Option Addr) (g n c m base : Nat) (l : List Nat) (hd : act.eval d = .slice (some ⟨g, 0, none⟩) n m) (hs : act.eval s = .slice A n c)
    (hown : w.ownsRow base 151 1 (.slice A n c) n (U l)) (hrow : Row w g (List.replicate m 0)) (hnm : n ≤ m) (B : Nat) (w0 : World) (hb : Below B w0 w) (hBg : B ≤ g)
    (h : ∀ w', Row w' g (l ++ List.replicate (m - n) 0) → Below B w0 w' → wpList Tryz.prog ops Q rest (act.put o.dst (goInt n)) w') : wpList Tryz.prog ops Q (o :: rest) act w := by
  have hl := own_len hown
  refine wpList_copy_splice hgd d s T T ho 151 hu size_u64 (some ⟨g, 0, none⟩) A n m n c hd hs g 0 (U (List.replicate m 0)) 151 hrow (U l) (by simp; omega) ?_ (by simp; omega) ?_ B w0 hb hBg ?_
  · intro hp
    refine ⟨rfl, ?_⟩
    rcases hown.2 with ⟨_, h0⟩ | ⟨g', cap, cur, hv, hbg, hh, _⟩
    · simp at hp; omega
    · injection hv with hA _ hc'
      subst hA hc'
      refine ⟨_, rfl, fun j v hj => ?_⟩
      rw [Lib.add_plain, Nat.zero_add, hown.cellAt j (by have := (List.getElem?_eq_some_iff.1 hj).1; simp at this; omega)]
      exact hj
  · intro v hv; simp at hv; obtain ⟨q, _, rfl⟩ := hv; rfl
  · intro w' h1 h2
    have e : (U l).length = n := by simp; omega
    rw [e]
    refine h w' ?_ h2
    have h3 := h1.out
    rw [splice_zero, hl] at h3
    exact h3
theorem zrow_row (w : World) (c : Nat) : Row (w.alloc (zrow c)) w.heap.size (List.replicate c 0) := heap_alloc_new w _
end Go.Proofs.YtgnppdkeiihlfaaGreatDoor
/- (magnitude).cut and (magnitude).compare. -/
namespace Go.Proofs.YtgnppdkeiihlfaaGreatDoor
open Go.RowKit Num
theorem cutZ_take_succ {l : List Nat} {k : Nat} (h : l[k]? = some 0) : cutZ (l.take (k + 1)) = cutZ (l.take k) := by
  obtain ⟨hk, he⟩ := List.getElem?_eq_some_iff.1 h
  rw [List.take_succ_eq_append_getElem hk, he, cutZ_snoc_zero]
theorem cutZ_take_ne {l : List Nat} {k x : Nat} (h : l[k]? = some x) (hx : x ≠ 0) : (cutZ (l.take (k + 1))).length = k + 1 := by
  obtain ⟨hk, he⟩ := List.getElem?_eq_some_iff.1 h
  rw [List.take_succ_eq_append_getElem hk, he, cutZ_snoc _ _ hx]; simp; omega
set_option maxHeartbeats 400000 in
theorem cut_any (A : Option Addr) (n c : Nat) (l : List Nat) (w : World) (base : Nat) (h : w.ownsRow base 151 1 (.slice A n c) n (U l)) :
    Calls Tryz.prog 137 #[.slice A n c] w fun e w' => e = .returned (.slice A (cutZ l).length c) ∧ w = w' := by
  have hl := own_len h
  obtain ⟨hc1, hc2⟩ := own_cap h
  unfold maxLen at hc2
  have h0 : cutZ (l.take n) = cutZ l := by rw [List.take_of_length_le (by omega)]
  have H0 := Lib.hid h0; clear h0
  have HL := Lib.hid hl; clear hl
  go_enter Tryz.func137, Tryz.ntmps137
  go_wp2
  go_loop [0] (fun v => ∃ k : Nat, k ≤ n ∧ Hid (cutZ (l.take k) = cutZ l) ∧ v = .slice A k c) (fun v => sLen v)
  case atStart => exact ⟨n, Nat.le_refl _, H0, rfl⟩
  case round =>
    obtain ⟨k, hk, HZ, rfl⟩ := hrel
    by_cases hk0 : k = 0
    · subst hk0
      go_wp2
      go_ret
      have := HZ.out
      simp [cutZ_nil] at this
      exact ⟨by rw [this]; rfl, rfl⟩
    · obtain ⟨j, rfl⟩ : ∃ j, k = j + 1 := ⟨k - 1, by omega⟩
      obtain ⟨g, x, rfl, hx, hg, hgl, hcell, hfr⟩ := own_at h (k := j) (by omega)
      have HX := Lib.hid hx; clear hx
      clear h
      by_cases hx0 : x = 0
      · subst hx0
        go_wp2
        go_round
        case rel => exact ⟨j, by omega, by rw [← cutZ_take_succ HX.out]; exact HZ, by go_num⟩
        case measure => simp
      · have hxb : ((x : Int) == 0) = false := by simp; omega
        go_wp2
        go_ret
        have := HZ.out
        exact ⟨by rw [← this, cutZ_take_ne HX.out hx0]; rfl, rfl⟩
def cmpG (m n : Nat) : Int := if (grp m).length = (grp n).length then (if m < n then -1 else if n < m then 1 else 0) else ((grp m).length : Int) - (grp n).length
theorem cmpG_neg (m n : Nat) : cmpG m n < 0 ↔ m < n := by
  unfold cmpG
  split
  · split
    · simp_all
    · split <;> simp_all
  · rename_i h
    constructor
    · intro h1; exact grp_len_lt m n (by omega)
    · intro h1; have := grp_len_mono m n (by omega); omega
theorem cmpG_pos (m n : Nat) : 0 < cmpG m n ↔ n < m := by
  unfold cmpG
  split
  · split
    · simp; omega
    · split <;> simp_all
  · rename_i h
    constructor
    · intro h1; exact grp_len_lt n m (by omega)
    · intro h1; have := grp_len_mono n m (by omega); omega
theorem cmpG_diff {m n : Nat} (h : (grp m).length ≠ (grp n).length) : cmpG m n = ((grp m).length : Int) - (grp n).length := by unfold cmpG; rw [if_neg h]
theorem cmpG_same {m n : Nat} (hl : (grp m).length = (grp n).length) (h : (grp m).drop 0 = (grp n).drop 0) : cmpG m n = 0 := by
  simp only [List.drop_zero] at h
  obtain rfl := grp_inj h
  simp [cmpG]
theorem cmpG_lt {m n k x y : Nat} (hl : (grp m).length = (grp n).length) (h : (grp m).drop (k + 1) = (grp n).drop (k + 1)) (hx : (grp m)[k]? = some x) (hy : (grp n)[k]? = some y) (hlt : x < y) : cmpG m n = -1 := by
  obtain ⟨h1, ex⟩ := List.getElem?_eq_some_iff.1 hx
  obtain ⟨h2, ey⟩ := List.getElem?_eq_some_iff.1 hy
  have a1 := gv_split (grp m) k (by omega)
  have a2 := gv_split (grp n) k (by omega)
  rw [gv_drop _ _ h1, ex] at a1
  rw [gv_drop _ _ h2, ey, ← h] at a2
  rw [gv_grp] at a1 a2
  have b1 := gv_lt _ (small_take (grp_small m) k)
  rw [List.length_take, Nat.min_eq_left (by omega)] at b1
  have c1 : BASE ^ k * (x + BASE * gv ((grp m).drop (k + 1)) + 1) ≤ BASE ^ k * (y + BASE * gv ((grp m).drop (k + 1))) := Nat.mul_le_mul_left _ (by omega)
  rw [Nat.mul_add _ _ 1] at c1
  have : m < n := by omega
  simp [cmpG, hl, this]
theorem cmpG_gt {m n k x y : Nat} (hl : (grp m).length = (grp n).length) (h : (grp m).drop (k + 1) = (grp n).drop (k + 1)) (hx : (grp m)[k]? = some x) (hy : (grp n)[k]? = some y) (hlt : y < x) : cmpG m n = 1 := by
  have := cmpG_lt hl.symm h.symm hy hx hlt
  have h1 := (cmpG_neg n m).1 (by omega)
  unfold cmpG
  rw [if_pos hl, if_neg (by omega), if_pos h1]
theorem drop_eq_step {m n k x : Nat} (h : (grp m).drop (k + 1) = (grp n).drop (k + 1)) (hx : (grp m)[k]? = some x) (hy : (grp n)[k]? = some x) : (grp m).drop k = (grp n).drop k := by
  obtain ⟨h1, ex⟩ := List.getElem?_eq_some_iff.1 hx
  obtain ⟨h2, ey⟩ := List.getElem?_eq_some_iff.1 hy
  rw [List.drop_eq_getElem_cons h1, List.drop_eq_getElem_cons h2, ex, ey, h]
theorem ret_int {k : IntKind} {a b : Int} (h : a = b) : Ending.returned (.int k a) = .returned (.int k b) := by rw [h]
set_option maxHeartbeats 1000000 in
theorem compare_any (A A' : Option Addr) (n c n' c' : Nat) (a b : Nat) (w : World) (base base' : Nat) (h : w.ownsRow base 151 1 (.slice A n c) n (U (grp a))) (h' : w.ownsRow base' 151 1 (.slice A' n' c') n' (U (grp b))) :
    Calls Tryz.prog 68 #[.slice A n c, .slice A' n' c'] w fun e w' => e = .returned (.int .i64 (cmpG a b)) ∧ ∃ k, w' = w.drewN k := by
  have hl := own_len h
  have hl' := own_len h'
  obtain ⟨hc1, hc2⟩ := own_cap h
  obtain ⟨hc1', hc2'⟩ := own_cap h'
  unfold maxLen at hc2 hc2'
  have HL := Lib.hid hl; clear hl
  have HL' := Lib.hid hl'; clear hl'
  by_cases hne : n = n'
  · subst hne
    have HE := Lib.hid (HL.out.trans HL'.out.symm)
    go_enter Tryz.func68, Tryz.ntmps68
    go_wp2
    go_loopw [5] (fun i wr => ∃ k : Nat, k ≤ n ∧ i = .int .i64 ((k : Int) - 1) ∧ Hid ((grp a).drop k = (grp b).drop k) ∧ ∃ q, wr = w.drewN q) (fun i _ => (intOf i + 1).toNat)
    case atStart =>
      refine ⟨n, Nat.le_refl _, rfl, ?_, 0, rfl⟩
      show _ = _
      rw [List.drop_of_length_le (by rw [HL.out]; omega), List.drop_of_length_le (by rw [HL'.out]; omega)]
    case round =>
      obtain ⟨k, hk, rfl, HD, q, rfl⟩ := hrel
      by_cases hk0 : k = 0
      · subst hk0
        go_wp2
        go_ret
        exact ⟨ret_int (cmpG_same HE.out HD.out).symm, q, rfl⟩
      · obtain ⟨j, rfl⟩ : ∃ j, k = j + 1 := ⟨k - 1, by omega⟩
        obtain ⟨g, x, rfl, hx, _, _, hcell, _⟩ := own_at h (k := j) (by omega)
        obtain ⟨g', y, rfl, hy, _, _, hcell', _⟩ := own_at h' (k := j) (by omega)
        have HX := Lib.hid hx; clear hx
        have HY := Lib.hid hy; clear hy
        clear h h'
        rcases Nat.lt_trichotomy x y with hxy | hxy | hxy
        · go_wp2
          go_quiet (fail)
          go_wp2
          go_ret
          exact ⟨ret_int (cmpG_lt HE.out HD.out HX.out HY.out hxy).symm, _, World.drewN_drewN _ _ _⟩
        · subst hxy
          go_wp2
          go_quiet (fail)
          go_wp2
          go_quiet (fail)
          go_wp2
          go_roundw
          case rel => exact ⟨j, by omega, by go_num, drop_eq_step HD.out HX.out HY.out, _, rfl⟩
          case measure => simp [intOf]
        · go_wp2
          go_quiet (fail)
          go_wp2
          go_quiet (fail)
          go_wp2
          go_ret
          exact ⟨ret_int (cmpG_gt HE.out HD.out HX.out HY.out hxy).symm, _, by rw [World.drewN_drewN, World.drewN_drewN]⟩
  · have hneb : ((n : Int) != (n' : Int)) = true := by simp; omega
    have HE := Lib.hid (cmpG_diff (m := a) (n := b) (by rw [HL.out, HL'.out]; exact hne))
    go_enter Tryz.func68, Tryz.ntmps68
    go_wp2
    go_ret
    exact ⟨ret_int (by rw [HE.out, HL.out, HL'.out]), 0, rfl⟩
end Go.Proofs.YtgnppdkeiihlfaaGreatDoor
/- The contracts of Go's library that package integer calls, laid at this seat's numbers: one application each. -/
namespace Go.Proofs
open Go.Shelf
def Tryz.lays169_ren : Go.Shelf.Ren := ⟨fun | 169 => 142 | n => n, fun | 70 => 158 | 9 => 9 | 0 => 0 | 72 => 161 | 37 => 159 | 127 => 197 | 3 => 3 | 5 => 5 | n => n, fun | n => n⟩
theorem Tryz.lays169 : Go.Proofs.Lays.n169 Tryz.prog Tryz.lays169_ren := {
  mixed := by kernel_rfl
  f169 := Tryz.func142.trans (congrArg some (by kernel_rfl))
  t0 := Tryz.underlying0
  a0 := Tryz.isAgg0
  z0 := Tryz.sizeOf0
  v0 := Tryz.zeroValue0
  t3 := Tryz.underlying3
  a3 := Tryz.isAgg3
  z3 := Tryz.sizeOf3
  v3 := Tryz.zeroValue3
  t9 := Tryz.underlying9
  a9 := Tryz.isAgg9
  z9 := Tryz.sizeOf9
  v9 := Tryz.zeroValue9
  t37 := Tryz.underlying159
  a37 := Tryz.isAgg159
  z37 := Tryz.sizeOf159
  v37 := Tryz.zeroValue159
  t70 := Tryz.underlying158
  a70 := Tryz.isAgg158
  z70 := Tryz.sizeOf158
  v70 := Tryz.zeroValue158
  t72 := Tryz.underlying161
  a72 := Tryz.isAgg161
  z72 := Tryz.sizeOf161
  v72 := Tryz.zeroValue161
  t127 := Tryz.underlying197
  a127 := Tryz.isAgg197
  z127 := Tryz.sizeOf197
  v127 := Tryz.zeroValue197 }
theorem Tryz.Builder_Extra_169 : Builder.Extra Tryz.prog Tryz.lays169_ren := {
  sizeBuilder := by kernel_rfl
  liesBuilder := by kernel_rfl
  t5 := Tryz.underlying5
  a5 := Tryz.isAgg5
  z5 := Tryz.sizeOf5
  v5 := Tryz.zeroValue5
  infoByte := by kernel_rfl
  cellsByte := by kernel_rfl
  sizeByte := by kernel_rfl
  neB5 := by decide }
open Go.RowKit in
theorem Tryz.Builder_String_any (B b : Nat) (l : List UInt8) (w : World) (h : Lib.IsBuilder 161 5 B b (Lib.byteCells l) w) (hBw : B ≤ w.heap.size) :
    Calls Tryz.prog 142 #[.pointer (some ⟨b, 0, none⟩)] w fun e w' => e = .returned (.string ⟨l.toArray⟩) ∧ Below B w w' := Any.Builder_String_any Tryz.lays169 Tryz.Builder_Extra_169 B b l w h hBw
def Tryz.lays161_ren : Go.Shelf.Ren := ⟨fun | 161 => 197 | 231 => 230 | 227 => 232 | 233 => 233 | 235 => 235 | 228 => 266 | 197 => 267 | 151 => 268 | 260 => 285 | 152 => 286 | 137 => 291 | 119 => 292 | 224 => 293 | 225 => 294 | 217 => 295 | 266 => 297 | n => n, fun | 9 => 9 | 4 => 4 | 3 => 3 | 5 => 5 | 117 => 219 | 116 => 218 | 0 => 0 | 124 => 222 | 105 => 251 | 21 => 21 | 119 => 276 | 46 => 191 | 139 => 279 | 138 => 278 | n => n, fun | 3 => 4 | 4 => 5 | n => n⟩
theorem Tryz.lays161 : Go.Proofs.Lays.n161 Tryz.prog Tryz.lays161_ren := {
  mixed := by kernel_rfl
  f119 := Tryz.func292.trans (congrArg some (by kernel_rfl))
  f137 := Tryz.func291.trans (congrArg some (by kernel_rfl))
  f151 := Tryz.func268.trans (congrArg some (by kernel_rfl))
  f152 := Tryz.func286.trans (congrArg some (by kernel_rfl))
  f161 := Tryz.func197.trans (congrArg some (by kernel_rfl))
  f197 := Tryz.func267.trans (congrArg some (by kernel_rfl))
  f217 := Tryz.func295.trans (congrArg some (by kernel_rfl))
  f224 := Tryz.func293.trans (congrArg some (by kernel_rfl))
  f225 := Tryz.func294.trans (congrArg some (by kernel_rfl))
  f227 := Tryz.func232.trans (congrArg some (by kernel_rfl))
  f228 := Tryz.func266.trans (congrArg some (by kernel_rfl))
  f231 := Tryz.func230.trans (congrArg some (by kernel_rfl))
  f233 := Tryz.func233.trans (congrArg some (by kernel_rfl))
  f235 := Tryz.func235.trans (congrArg some (by kernel_rfl))
  f260 := Tryz.func285.trans (congrArg some (by kernel_rfl))
  f266 := Tryz.func297.trans (congrArg some (by kernel_rfl))
  t0 := Tryz.underlying0
  a0 := Tryz.isAgg0
  z0 := Tryz.sizeOf0
  v0 := Tryz.zeroValue0
  t3 := Tryz.underlying3
  a3 := Tryz.isAgg3
  z3 := Tryz.sizeOf3
  v3 := Tryz.zeroValue3
  t4 := Tryz.underlying4
  a4 := Tryz.isAgg4
  z4 := Tryz.sizeOf4
  v4 := Tryz.zeroValue4
  t5 := Tryz.underlying5
  a5 := Tryz.isAgg5
  z5 := Tryz.sizeOf5
  v5 := Tryz.zeroValue5
  t9 := Tryz.underlying9
  a9 := Tryz.isAgg9
  z9 := Tryz.sizeOf9
  v9 := Tryz.zeroValue9
  t21 := Tryz.underlying21
  a21 := Tryz.isAgg21
  z21 := Tryz.sizeOf21
  v21 := Tryz.zeroValue21
  t46 := Tryz.underlying191
  a46 := Tryz.isAgg191
  z46 := Tryz.sizeOf191
  v46 := Tryz.zeroValue191
  t105 := Tryz.underlying251
  a105 := Tryz.isAgg251
  z105 := Tryz.sizeOf251
  v105 := Tryz.zeroValue251
  t116 := Tryz.underlying218
  a116 := Tryz.isAgg218
  z116 := Tryz.sizeOf218
  t117 := Tryz.underlying219
  a117 := Tryz.isAgg219
  z117 := Tryz.sizeOf219
  v117 := Tryz.zeroValue219
  t119 := Tryz.underlying276
  a119 := Tryz.isAgg276
  z119 := Tryz.sizeOf276
  t124 := Tryz.underlying222
  a124 := Tryz.isAgg222
  z124 := Tryz.sizeOf222
  v124 := Tryz.zeroValue222
  t138 := Tryz.underlying278
  a138 := Tryz.isAgg278
  z138 := Tryz.sizeOf278
  v138 := Tryz.zeroValue278
  t139 := Tryz.underlying279
  a139 := Tryz.isAgg279
  z139 := Tryz.sizeOf279
  v139 := Tryz.zeroValue279
  g3 := by kernel_rfl
  g4 := by kernel_rfl }
def Tryz.lays160_ren : Go.Shelf.Ren := ⟨fun | 160 => 196 | 232 => 231 | 231 => 230 | 227 => 232 | 234 => 234 | 233 => 233 | 236 => 236 | 235 => 235 | 228 => 266 | 271 => 269 | 151 => 268 | 197 => 267 | 120 => 287 | 152 => 286 | 260 => 285 | 137 => 291 | 119 => 292 | 224 => 293 | 225 => 294 | 217 => 295 | 266 => 297 | n => n, fun | 9 => 9 | 4 => 4 | 3 => 3 | 5 => 5 | 117 => 219 | 116 => 218 | 0 => 0 | 124 => 222 | 21 => 21 | 105 => 251 | 46 => 191 | 119 => 276 | 139 => 279 | 138 => 278 | n => n, fun | 3 => 4 | 4 => 5 | n => n⟩
theorem Tryz.lays160 : Go.Proofs.Lays.n160 Tryz.prog Tryz.lays160_ren := {
  mixed := by kernel_rfl
  f119 := Tryz.func292.trans (congrArg some (by kernel_rfl))
  f120 := Tryz.func287.trans (congrArg some (by kernel_rfl))
  f137 := Tryz.func291.trans (congrArg some (by kernel_rfl))
  f151 := Tryz.func268.trans (congrArg some (by kernel_rfl))
  f152 := Tryz.func286.trans (congrArg some (by kernel_rfl))
  f160 := Tryz.func196.trans (congrArg some (by kernel_rfl))
  f197 := Tryz.func267.trans (congrArg some (by kernel_rfl))
  f217 := Tryz.func295.trans (congrArg some (by kernel_rfl))
  f224 := Tryz.func293.trans (congrArg some (by kernel_rfl))
  f225 := Tryz.func294.trans (congrArg some (by kernel_rfl))
  f227 := Tryz.func232.trans (congrArg some (by kernel_rfl))
  f228 := Tryz.func266.trans (congrArg some (by kernel_rfl))
  f231 := Tryz.func230.trans (congrArg some (by kernel_rfl))
  f232 := Tryz.func231.trans (congrArg some (by kernel_rfl))
  f233 := Tryz.func233.trans (congrArg some (by kernel_rfl))
  f234 := Tryz.func234.trans (congrArg some (by kernel_rfl))
  f235 := Tryz.func235.trans (congrArg some (by kernel_rfl))
  f236 := Tryz.func236.trans (congrArg some (by kernel_rfl))
  f260 := Tryz.func285.trans (congrArg some (by kernel_rfl))
  f266 := Tryz.func297.trans (congrArg some (by kernel_rfl))
  f271 := Tryz.func269.trans (congrArg some (by kernel_rfl))
  t0 := Tryz.underlying0
  a0 := Tryz.isAgg0
  z0 := Tryz.sizeOf0
  v0 := Tryz.zeroValue0
  t3 := Tryz.underlying3
  a3 := Tryz.isAgg3
  z3 := Tryz.sizeOf3
  v3 := Tryz.zeroValue3
  t4 := Tryz.underlying4
  a4 := Tryz.isAgg4
  z4 := Tryz.sizeOf4
  v4 := Tryz.zeroValue4
  t5 := Tryz.underlying5
  a5 := Tryz.isAgg5
  z5 := Tryz.sizeOf5
  v5 := Tryz.zeroValue5
  t9 := Tryz.underlying9
  a9 := Tryz.isAgg9
  z9 := Tryz.sizeOf9
  v9 := Tryz.zeroValue9
  t21 := Tryz.underlying21
  a21 := Tryz.isAgg21
  z21 := Tryz.sizeOf21
  v21 := Tryz.zeroValue21
  t46 := Tryz.underlying191
  a46 := Tryz.isAgg191
  z46 := Tryz.sizeOf191
  v46 := Tryz.zeroValue191
  t105 := Tryz.underlying251
  a105 := Tryz.isAgg251
  z105 := Tryz.sizeOf251
  v105 := Tryz.zeroValue251
  t116 := Tryz.underlying218
  a116 := Tryz.isAgg218
  z116 := Tryz.sizeOf218
  t117 := Tryz.underlying219
  a117 := Tryz.isAgg219
  z117 := Tryz.sizeOf219
  v117 := Tryz.zeroValue219
  t119 := Tryz.underlying276
  a119 := Tryz.isAgg276
  z119 := Tryz.sizeOf276
  t124 := Tryz.underlying222
  a124 := Tryz.isAgg222
  z124 := Tryz.sizeOf222
  v124 := Tryz.zeroValue222
  t138 := Tryz.underlying278
  a138 := Tryz.isAgg278
  z138 := Tryz.sizeOf278
  v138 := Tryz.zeroValue278
  t139 := Tryz.underlying279
  a139 := Tryz.isAgg279
  z139 := Tryz.sizeOf279
  v139 := Tryz.zeroValue279
  g3 := by kernel_rfl
  g4 := by kernel_rfl }
def Tryz.lays103_ren : Go.Shelf.Ren := ⟨fun | 103 => 195 | 210 => 229 | 206 => 253 | n => n, fun | 9 => 9 | 4 => 4 | 24 => 149 | 3 => 3 | n => n, fun | n => n⟩
theorem Tryz.lays103 : Go.Proofs.Lays.n103 Tryz.prog Tryz.lays103_ren := {
  mixed := by kernel_rfl
  f103 := Tryz.func195.trans (congrArg some (by kernel_rfl))
  f206 := Tryz.func253.trans (congrArg some (by kernel_rfl))
  f210 := Tryz.func229.trans (congrArg some (by kernel_rfl))
  t3 := Tryz.underlying3
  a3 := Tryz.isAgg3
  z3 := Tryz.sizeOf3
  v3 := Tryz.zeroValue3
  t4 := Tryz.underlying4
  a4 := Tryz.isAgg4
  z4 := Tryz.sizeOf4
  v4 := Tryz.zeroValue4
  t9 := Tryz.underlying9
  a9 := Tryz.isAgg9
  z9 := Tryz.sizeOf9
  v9 := Tryz.zeroValue9
  t24 := Tryz.underlying149
  a24 := Tryz.isAgg149
  z24 := Tryz.sizeOf149
  v24 := Tryz.zeroValue149 }
open Go.RowKit in
theorem Tryz.strings_CutPrefix (s p : ByteArray) (w : World) :
    Calls Tryz.prog 195 #[.string s, .string p] w fun e w' => e = .returned (.tuple #[.string ⟨(Lib.trimPrefix s.data.toList p.data.toList).toArray⟩, .bool (Lib.hasPrefix s.data.toList p.data.toList)]) ∧ w' = w := Any.strings_CutPrefix Tryz.lays103 s p w
def Tryz.lays283_ren : Go.Shelf.Ren := ⟨fun | 283 => 247 | n => n, fun | 3 => 3 | 9 => 9 | 4 => 4 | n => n, fun | n => n⟩
theorem Tryz.lays283 : Go.Proofs.Lays.n283 Tryz.prog Tryz.lays283_ren := {
  mixed := by kernel_rfl
  f283 := Tryz.func247.trans (congrArg some (by kernel_rfl))
  t3 := Tryz.underlying3
  a3 := Tryz.isAgg3
  z3 := Tryz.sizeOf3
  v3 := Tryz.zeroValue3
  t4 := Tryz.underlying4
  a4 := Tryz.isAgg4
  z4 := Tryz.sizeOf4
  v4 := Tryz.zeroValue4
  t9 := Tryz.underlying9
  a9 := Tryz.isAgg9
  z9 := Tryz.sizeOf9
  v9 := Tryz.zeroValue9 }
open Go.Lib in
theorem Tryz.internal_strconv_small (i : Nat) (h : i < 100) (w : World) :
    Calls Tryz.prog 247 #[.int .i64 i] w fun e w' => e = .returned (.string ⟨(Lib.decDigits i).toArray⟩) ∧ w' = w := Any.internal_strconv_small Tryz.lays283 i h w
def Tryz.laysM284_ren : Go.Shelf.Ren := ⟨fun | 284 => 248 | 129 => 275 | 317 => 274 | 318 => 276 | n => n, fun | 53 => 151 | 3 => 3 | 212 => 262 | 0 => 0 | 4 => 4 | 46 => 191 | 5 => 5 | 9 => 9 | n => n, fun | 17 => 2 | n => n⟩
theorem Tryz.laysM284 : Go.Proofs.LaysM.n284 Tryz.prog Tryz.laysM284_ren := {
  mixed := by kernel_rfl
  f129 := Tryz.func275.trans (congrArg some (by kernel_rfl))
  f284 := Tryz.func248.trans (congrArg some (by kernel_rfl))
  f317 := Tryz.func274.trans (congrArg some (by kernel_rfl))
  f318 := Tryz.func276.trans (congrArg some (by kernel_rfl))
  t0 := Tryz.underlying0
  a0 := Tryz.isAgg0
  z0 := Tryz.sizeOf0
  v0 := Tryz.zeroValue0
  t3 := Tryz.underlying3
  a3 := Tryz.isAgg3
  z3 := Tryz.sizeOf3
  v3 := Tryz.zeroValue3
  t4 := Tryz.underlying4
  a4 := Tryz.isAgg4
  z4 := Tryz.sizeOf4
  v4 := Tryz.zeroValue4
  t5 := Tryz.underlying5
  a5 := Tryz.isAgg5
  z5 := Tryz.sizeOf5
  v5 := Tryz.zeroValue5
  t9 := Tryz.underlying9
  a9 := Tryz.isAgg9
  z9 := Tryz.sizeOf9
  v9 := Tryz.zeroValue9
  t46 := Tryz.underlying191
  a46 := Tryz.isAgg191
  z46 := Tryz.sizeOf191
  v46 := Tryz.zeroValue191
  t53 := Tryz.underlying151
  a53 := Tryz.isAgg151
  z53 := Tryz.sizeOf151
  v53 := Tryz.zeroValue151
  t212 := Tryz.underlying262
  a212 := Tryz.isAgg262
  z212 := Tryz.sizeOf262
  v212 := Tryz.zeroValue262
  g17 := by kernel_rfl
  i0 := by kernel_rfl
  i3 := by kernel_rfl
  i4 := by kernel_rfl
  i5 := by kernel_rfl
  i9 := by kernel_rfl
  i46 := by kernel_rfl
  i53 := by kernel_rfl
  i212 := by kernel_rfl
  m17 := by kernel_rfl }
open Go.Lib in
theorem Tryz.internal_strconv_numDigits (u : Nat) (h1 : 1 ≤ u) (h2 : u < 18446744073709551616) (w : World) (htab : Lib.TabIs Tryz.prog w "internal/strconv.uint64pow10" .u64 Lib.pow10Tab) :
    Calls Tryz.prog 248 #[.int .u64 u] w fun e w' => e = .returned (.int .i64 (Lib.nDigits u)) ∧ w' = w := Any.internal_strconv_numDigits Tryz.laysM284 u h1 h2 w htab
def Tryz.lays285_ren : Go.Shelf.Ren := ⟨fun | 285 => 249 | n => n, fun | 37 => 159 | 53 => 151 | 3 => 3 | 4 => 4 | 51 => 237 | 9 => 9 | 5 => 5 | 0 => 0 | n => n, fun | n => n⟩
theorem Tryz.lays285 : Go.Proofs.Lays.n285 Tryz.prog Tryz.lays285_ren := {
  mixed := by kernel_rfl
  f285 := Tryz.func249.trans (congrArg some (by kernel_rfl))
  t0 := Tryz.underlying0
  a0 := Tryz.isAgg0
  z0 := Tryz.sizeOf0
  v0 := Tryz.zeroValue0
  t3 := Tryz.underlying3
  a3 := Tryz.isAgg3
  z3 := Tryz.sizeOf3
  v3 := Tryz.zeroValue3
  t4 := Tryz.underlying4
  a4 := Tryz.isAgg4
  z4 := Tryz.sizeOf4
  v4 := Tryz.zeroValue4
  t5 := Tryz.underlying5
  a5 := Tryz.isAgg5
  z5 := Tryz.sizeOf5
  v5 := Tryz.zeroValue5
  t9 := Tryz.underlying9
  a9 := Tryz.isAgg9
  z9 := Tryz.sizeOf9
  v9 := Tryz.zeroValue9
  t37 := Tryz.underlying159
  a37 := Tryz.isAgg159
  z37 := Tryz.sizeOf159
  v37 := Tryz.zeroValue159
  t51 := Tryz.underlying237
  a51 := Tryz.isAgg237
  z51 := Tryz.sizeOf237
  v51 := Tryz.zeroValue237
  t53 := Tryz.underlying151
  a53 := Tryz.isAgg151
  z53 := Tryz.sizeOf151
  v53 := Tryz.zeroValue151 }
open Go.RowKit Go.Sort Go.Lib in
theorem Tryz.internal_strconv_formatBase10 (blk off cap : Nat) (u : Nat) (d : Array UInt8) (w : World) (hH : Holds (fun (b : UInt8) => Value.int .u8 (b.toNat : Int)) w blk off d) (hu : u < 10 ^ d.size) (hu64 : u < 18446744073709551616) (hsz : d.size < 4611686018427387904) :
    Calls Tryz.prog 249 #[.slice (some ⟨blk, off, none⟩) d.size cap, .int .u64 u] w fun e w' =>
      e = .returned (.tuple #[]) ∧ ∃ (n v' : Nat) (dk : Array UInt8), w' = (putRow (fun (b : UInt8) => Value.int .u8 (b.toNat : Int)) w blk off dk).drewN n ∧ FmtInv d.size u 0 v' dk := Any.internal_strconv_formatBase10 Tryz.lays285 blk off cap u d w hH hu hu64 hsz
def Tryz.laysPu14_ren : Go.Shelf.Ren := ⟨fun | 14 => 135 | 16 => 198 | 17 => 199 | 19 => 237 | 20 => 238 | 21 => 239 | 22 => 240 | 23 => 241 | 24 => 242 | 25 => 270 | 27 => 222 | 26 => 271 | 28 => 264 | 29 => 284 | 30 => 247 | 31 => 248 | 32 => 249 | 33 => 250 | 35 => 275 | 34 => 274 | 36 => 276 | 37 => 277 | 38 => 278 | 39 => 288 | 40 => 289 | n => n, fun | 9 => 9 | 3 => 3 | 22 => 151 | 24 => 153 | 25 => 154 | 4 => 4 | 34 => 223 | 5 => 5 | 36 => 191 | 37 => 159 | 0 => 0 | 39 => 225 | 21 => 21 | 44 => 256 | 47 => 197 | 50 => 273 | 48 => 271 | 2 => 2 | 52 => 232 | 55 => 235 | 59 => 262 | 60 => 237 | 20 => 20 | 61 => 263 | 65 => 282 | 66 => 283 | 67 => 167 | n => n, fun | 0 => 0 | 1 => 1 | 2 => 2 | 3 => 6 | 4 => 7 | n => n⟩
theorem Tryz.laysPu14 : Go.Proofs.LaysPu.n14 Tryz.prog Tryz.laysPu14_ren := {
  mixed := by kernel_rfl
  f14 := Tryz.func135.trans (congrArg some (by kernel_rfl))
  f16 := Tryz.func198.trans (congrArg some (by kernel_rfl))
  f17 := Tryz.func199.trans (congrArg some (by kernel_rfl))
  f19 := Tryz.func237.trans (congrArg some (by kernel_rfl))
  f20 := Tryz.func238.trans (congrArg some (by kernel_rfl))
  f21 := Tryz.func239.trans (congrArg some (by kernel_rfl))
  f22 := Tryz.func240.trans (congrArg some (by kernel_rfl))
  f23 := Tryz.func241.trans (congrArg some (by kernel_rfl))
  f24 := Tryz.func242.trans (congrArg some (by kernel_rfl))
  f25 := Tryz.func270.trans (congrArg some (by kernel_rfl))
  f26 := Tryz.func271.trans (congrArg some (by kernel_rfl))
  f27 := Tryz.func222.trans (congrArg some (by kernel_rfl))
  f28 := Tryz.func264.trans (congrArg some (by kernel_rfl))
  f29 := Tryz.func284.trans (congrArg some (by kernel_rfl))
  f30 := Tryz.func247.trans (congrArg some (by kernel_rfl))
  f31 := Tryz.func248.trans (congrArg some (by kernel_rfl))
  f32 := Tryz.func249.trans (congrArg some (by kernel_rfl))
  f33 := Tryz.func250.trans (congrArg some (by kernel_rfl))
  f34 := Tryz.func274.trans (congrArg some (by kernel_rfl))
  f35 := Tryz.func275.trans (congrArg some (by kernel_rfl))
  f36 := Tryz.func276.trans (congrArg some (by kernel_rfl))
  f37 := Tryz.func277.trans (congrArg some (by kernel_rfl))
  f38 := Tryz.func278.trans (congrArg some (by kernel_rfl))
  f39 := Tryz.func288.trans (congrArg some (by kernel_rfl))
  f40 := Tryz.func289.trans (congrArg some (by kernel_rfl))
  t0 := Tryz.underlying0
  a0 := Tryz.isAgg0
  z0 := Tryz.sizeOf0
  v0 := Tryz.zeroValue0
  i0 := by kernel_rfl
  t2 := Tryz.underlying2
  a2 := Tryz.isAgg2
  z2 := Tryz.sizeOf2
  v2 := Tryz.zeroValue2
  i2 := by kernel_rfl
  t3 := Tryz.underlying3
  a3 := Tryz.isAgg3
  z3 := Tryz.sizeOf3
  v3 := Tryz.zeroValue3
  i3 := by kernel_rfl
  t4 := Tryz.underlying4
  a4 := Tryz.isAgg4
  z4 := Tryz.sizeOf4
  v4 := Tryz.zeroValue4
  i4 := by kernel_rfl
  t5 := Tryz.underlying5
  a5 := Tryz.isAgg5
  z5 := Tryz.sizeOf5
  v5 := Tryz.zeroValue5
  i5 := by kernel_rfl
  t9 := Tryz.underlying9
  a9 := Tryz.isAgg9
  z9 := Tryz.sizeOf9
  v9 := Tryz.zeroValue9
  i9 := by kernel_rfl
  t20 := Tryz.underlying20
  a20 := Tryz.isAgg20
  z20 := Tryz.sizeOf20
  v20 := Tryz.zeroValue20
  i20 := by kernel_rfl
  t21 := Tryz.underlying21
  a21 := Tryz.isAgg21
  z21 := Tryz.sizeOf21
  v21 := Tryz.zeroValue21
  i21 := by kernel_rfl
  t22 := Tryz.underlying151
  a22 := Tryz.isAgg151
  z22 := Tryz.sizeOf151
  v22 := Tryz.zeroValue151
  i22 := by kernel_rfl
  t24 := Tryz.underlying153
  a24 := Tryz.isAgg153
  z24 := Tryz.sizeOf153
  v24 := Tryz.zeroValue153
  i24 := by kernel_rfl
  t25 := Tryz.underlying154
  a25 := Tryz.isAgg154
  z25 := Tryz.sizeOf154
  v25 := Tryz.zeroValue154
  i25 := by kernel_rfl
  t34 := Tryz.underlying223
  a34 := Tryz.isAgg223
  z34 := Tryz.sizeOf223
  v34 := Tryz.zeroValue223
  i34 := by kernel_rfl
  c34 := by kernel_rfl
  t36 := Tryz.underlying191
  a36 := Tryz.isAgg191
  z36 := Tryz.sizeOf191
  v36 := Tryz.zeroValue191
  i36 := by kernel_rfl
  t37 := Tryz.underlying159
  a37 := Tryz.isAgg159
  z37 := Tryz.sizeOf159
  v37 := Tryz.zeroValue159
  i37 := by kernel_rfl
  t39 := Tryz.underlying225
  a39 := Tryz.isAgg225
  z39 := Tryz.sizeOf225
  v39 := Tryz.zeroValue225
  i39 := by kernel_rfl
  t44 := Tryz.underlying256
  a44 := Tryz.isAgg256
  z44 := Tryz.sizeOf256
  v44 := Tryz.zeroValue256
  i44 := by kernel_rfl
  t47 := Tryz.underlying197
  a47 := Tryz.isAgg197
  z47 := Tryz.sizeOf197
  v47 := Tryz.zeroValue197
  i47 := by kernel_rfl
  t48 := Tryz.underlying271
  a48 := Tryz.isAgg271
  z48 := Tryz.sizeOf271
  v48 := Tryz.zeroValue271
  i48 := by kernel_rfl
  t50 := Tryz.underlying273
  a50 := Tryz.isAgg273
  z50 := Tryz.sizeOf273
  v50 := Tryz.zeroValue273
  i50 := by kernel_rfl
  t52 := Tryz.underlying232
  a52 := Tryz.isAgg232
  z52 := Tryz.sizeOf232
  v52 := Tryz.zeroValue232
  i52 := by kernel_rfl
  t55 := Tryz.underlying235
  a55 := Tryz.isAgg235
  z55 := Tryz.sizeOf235
  v55 := Tryz.zeroValue235
  i55 := by kernel_rfl
  t59 := Tryz.underlying262
  a59 := Tryz.isAgg262
  z59 := Tryz.sizeOf262
  v59 := Tryz.zeroValue262
  i59 := by kernel_rfl
  t60 := Tryz.underlying237
  a60 := Tryz.isAgg237
  z60 := Tryz.sizeOf237
  v60 := Tryz.zeroValue237
  i60 := by kernel_rfl
  t61 := Tryz.underlying263
  a61 := Tryz.isAgg263
  z61 := Tryz.sizeOf263
  t65 := Tryz.underlying282
  a65 := Tryz.isAgg282
  z65 := Tryz.sizeOf282
  v65 := Tryz.zeroValue282
  i65 := by kernel_rfl
  t66 := Tryz.underlying283
  a66 := Tryz.isAgg283
  z66 := Tryz.sizeOf283
  v66 := Tryz.zeroValue283
  i66 := by kernel_rfl
  t67 := Tryz.underlying167
  a67 := Tryz.isAgg167
  z67 := Tryz.sizeOf167
  v67 := Tryz.zeroValue167
  i67 := by kernel_rfl
  g0 := by kernel_rfl
  m0 := by kernel_rfl
  g1 := by kernel_rfl
  m1 := by kernel_rfl
  g2 := by kernel_rfl
  m2 := by kernel_rfl
  g3 := by kernel_rfl
  m3 := by kernel_rfl
  g4 := by kernel_rfl
  m4 := by kernel_rfl }
open Go.RowKit in
theorem Tryz.strconv_ParseUint_10_at64_ok (s : ByteArray) (hmax : s.size ≤ 9223372036854775806) (u : Nat) (h : Lib.parseUintB 64 s.data.toList = .ok u) (w : World) :
    Calls Tryz.prog 135 #[.string s, .int .i64 10, .int .i64 64] w fun e w' => e = .returned (.tuple #[.int .u64 u, .nilIface]) ∧ (w' = w ∨ w' = Lib.bytesWorld w 5 s) := Any.strconv_ParseUint_10_at64_ok Tryz.laysPu14 s hmax u h w
def Tryz.lays105_ren : Go.Shelf.Ren := ⟨fun | 105 => 141 | 212 => 205 | 99 => 206 | 165 => 207 | 166 => 139 | 170 => 208 | 169 => 142 | 263 => 251 | 264 => 252 | 206 => 253 | 240 => 203 | 241 => 254 | 276 => 246 | 277 => 279 | n => n, fun | 9 => 9 | 3 => 3 | 4 => 4 | 20 => 20 | 0 => 0 | 46 => 191 | 109 => 192 | 5 => 5 | 72 => 161 | 76 => 163 | 51 => 237 | 146 => 238 | 53 => 151 | 148 => 240 | 70 => 158 | 37 => 159 | 75 => 153 | 127 => 197 | 164 => 230 | 80 => 167 | n => n, fun | n => n⟩
theorem Tryz.lays105 : Go.Proofs.Lays.n105 Tryz.prog Tryz.lays105_ren := {
  mixed := by kernel_rfl
  f99 := Tryz.func206.trans (congrArg some (by kernel_rfl))
  f105 := Tryz.func141.trans (congrArg some (by kernel_rfl))
  f165 := Tryz.func207.trans (congrArg some (by kernel_rfl))
  f166 := Tryz.func139.trans (congrArg some (by kernel_rfl))
  f169 := Tryz.func142.trans (congrArg some (by kernel_rfl))
  f170 := Tryz.func208.trans (congrArg some (by kernel_rfl))
  f206 := Tryz.func253.trans (congrArg some (by kernel_rfl))
  f212 := Tryz.func205.trans (congrArg some (by kernel_rfl))
  f240 := Tryz.func203.trans (congrArg some (by kernel_rfl))
  f241 := Tryz.func254.trans (congrArg some (by kernel_rfl))
  f263 := Tryz.func251.trans (congrArg some (by kernel_rfl))
  f264 := Tryz.func252.trans (congrArg some (by kernel_rfl))
  f276 := Tryz.func246.trans (congrArg some (by kernel_rfl))
  f277 := Tryz.func279.trans (congrArg some (by kernel_rfl))
  t0 := Tryz.underlying0
  a0 := Tryz.isAgg0
  z0 := Tryz.sizeOf0
  v0 := Tryz.zeroValue0
  t3 := Tryz.underlying3
  a3 := Tryz.isAgg3
  z3 := Tryz.sizeOf3
  v3 := Tryz.zeroValue3
  t4 := Tryz.underlying4
  a4 := Tryz.isAgg4
  z4 := Tryz.sizeOf4
  v4 := Tryz.zeroValue4
  t5 := Tryz.underlying5
  a5 := Tryz.isAgg5
  z5 := Tryz.sizeOf5
  v5 := Tryz.zeroValue5
  t9 := Tryz.underlying9
  a9 := Tryz.isAgg9
  z9 := Tryz.sizeOf9
  v9 := Tryz.zeroValue9
  t20 := Tryz.underlying20
  a20 := Tryz.isAgg20
  z20 := Tryz.sizeOf20
  v20 := Tryz.zeroValue20
  t37 := Tryz.underlying159
  a37 := Tryz.isAgg159
  z37 := Tryz.sizeOf159
  v37 := Tryz.zeroValue159
  t46 := Tryz.underlying191
  a46 := Tryz.isAgg191
  z46 := Tryz.sizeOf191
  v46 := Tryz.zeroValue191
  t51 := Tryz.underlying237
  a51 := Tryz.isAgg237
  z51 := Tryz.sizeOf237
  v51 := Tryz.zeroValue237
  t53 := Tryz.underlying151
  a53 := Tryz.isAgg151
  z53 := Tryz.sizeOf151
  v53 := Tryz.zeroValue151
  t70 := Tryz.underlying158
  a70 := Tryz.isAgg158
  z70 := Tryz.sizeOf158
  v70 := Tryz.zeroValue158
  t72 := Tryz.underlying161
  a72 := Tryz.isAgg161
  z72 := Tryz.sizeOf161
  v72 := Tryz.zeroValue161
  t75 := Tryz.underlying153
  a75 := Tryz.isAgg153
  z75 := Tryz.sizeOf153
  v75 := Tryz.zeroValue153
  t76 := Tryz.underlying163
  a76 := Tryz.isAgg163
  z76 := Tryz.sizeOf163
  v76 := Tryz.zeroValue163
  t109 := Tryz.underlying192
  a109 := Tryz.isAgg192
  z109 := Tryz.sizeOf192
  v109 := Tryz.zeroValue192
  t127 := Tryz.underlying197
  a127 := Tryz.isAgg197
  z127 := Tryz.sizeOf197
  v127 := Tryz.zeroValue197
  t146 := Tryz.underlying238
  a146 := Tryz.isAgg238
  z146 := Tryz.sizeOf238
  v146 := Tryz.zeroValue238
  t148 := Tryz.underlying240
  a148 := Tryz.isAgg240
  z148 := Tryz.sizeOf240
  v148 := Tryz.zeroValue240
  t164 := Tryz.underlying230
  a164 := Tryz.isAgg230
  z164 := Tryz.sizeOf230
  v164 := Tryz.zeroValue230 }
theorem Tryz.Builder_Extra_105 : Builder.Extra Tryz.prog Tryz.lays105_ren := {
  sizeBuilder := by kernel_rfl
  liesBuilder := by kernel_rfl
  t5 := Tryz.underlying5
  a5 := Tryz.isAgg5
  z5 := Tryz.sizeOf5
  v5 := Tryz.zeroValue5
  infoByte := by kernel_rfl
  cellsByte := by kernel_rfl
  sizeByte := by kernel_rfl
  neB5 := by decide }
open Go.RowKit Go.Lib in
theorem Tryz.strings_Repeat (s : ByteArray) (c : Nat) (w : World) (hc : c ≤ 9223372036854775807) (hlen : s.size * c ≤ 140737488355328) :
    Calls Tryz.prog 141 #[.string s, .int .i64 c] w fun e w' => e = .returned (.string ⟨(Lib.repeatL s.data.toList c).toArray⟩) ∧ Below w.heap.size w w' := Any.strings_Repeat Tryz.lays105 Tryz.Builder_Extra_105 s c w hc hlen
open Go.RowKit in
theorem Tryz.strings_Trim (s cutset : ByteArray) (w : World) (hs : s.size ≤ 9223372036854775807) (hcs : cutset.size < 4294967281) (hascii : ∀ (j : Nat) (b : UInt8), cutset.data.toList[j]? = some b → b.toNat < 128) :
    Calls Tryz.prog 196 #[.string s, .string cutset] w fun e w' => e = .returned (.string ⟨(Lib.trimS s.data.toList cutset.data.toList).toArray⟩) ∧ Below w.heap.size w w' := Any.strings_Trim_laid Tryz.lays160 (by kernel_rfl) s cutset w hs hcs hascii
open Go.RowKit in
theorem Tryz.strings_TrimLeft (s cutset : ByteArray) (w : World) (hcs : cutset.size < 4294967281) (hascii : ∀ (j : Nat) (b : UInt8), cutset.data.toList[j]? = some b → b.toNat < 128) :
    Calls Tryz.prog 197 #[.string s, .string cutset] w fun e w' => e = .returned (.string ⟨(Lib.trimLeftS s.data.toList cutset.data.toList).toArray⟩) ∧ Below w.heap.size w w' := Any.strings_TrimLeft_laid Tryz.lays161 (by kernel_rfl) s cutset w hcs hascii
def Tryz.lays167_ren : Go.Shelf.Ren := ⟨fun | 167 => 138 | 240 => 203 | 276 => 246 | n => n, fun | 0 => 0 | 4 => 4 | 5 => 5 | 9 => 9 | 20 => 20 | 37 => 159 | 70 => 158 | 72 => 161 | 75 => 153 | 80 => 167 | 164 => 230 | n => n, fun | n => n⟩
theorem Tryz.lays167 : Go.Proofs.Lays.n167 Tryz.prog Tryz.lays167_ren := {
  mixed := by kernel_rfl
  f167 := Tryz.func138.trans (congrArg some (by kernel_rfl))
  f240 := Tryz.func203.trans (congrArg some (by kernel_rfl))
  f276 := Tryz.func246.trans (congrArg some (by kernel_rfl))
  t0 := Tryz.underlying0
  a0 := Tryz.isAgg0
  z0 := Tryz.sizeOf0
  v0 := Tryz.zeroValue0
  t4 := Tryz.underlying4
  a4 := Tryz.isAgg4
  z4 := Tryz.sizeOf4
  v4 := Tryz.zeroValue4
  t5 := Tryz.underlying5
  a5 := Tryz.isAgg5
  z5 := Tryz.sizeOf5
  v5 := Tryz.zeroValue5
  t9 := Tryz.underlying9
  a9 := Tryz.isAgg9
  z9 := Tryz.sizeOf9
  v9 := Tryz.zeroValue9
  t20 := Tryz.underlying20
  a20 := Tryz.isAgg20
  z20 := Tryz.sizeOf20
  v20 := Tryz.zeroValue20
  t37 := Tryz.underlying159
  a37 := Tryz.isAgg159
  z37 := Tryz.sizeOf159
  v37 := Tryz.zeroValue159
  t70 := Tryz.underlying158
  a70 := Tryz.isAgg158
  z70 := Tryz.sizeOf158
  v70 := Tryz.zeroValue158
  t72 := Tryz.underlying161
  a72 := Tryz.isAgg161
  z72 := Tryz.sizeOf161
  v72 := Tryz.zeroValue161
  t75 := Tryz.underlying153
  a75 := Tryz.isAgg153
  z75 := Tryz.sizeOf153
  v75 := Tryz.zeroValue153
  t164 := Tryz.underlying230
  a164 := Tryz.isAgg230
  z164 := Tryz.sizeOf230
  v164 := Tryz.zeroValue230 }
theorem Tryz.Builder_Extra_167 : Builder.Extra Tryz.prog Tryz.lays167_ren := {
  sizeBuilder := by kernel_rfl
  liesBuilder := by kernel_rfl
  t5 := Tryz.underlying5
  a5 := Tryz.isAgg5
  z5 := Tryz.sizeOf5
  v5 := Tryz.zeroValue5
  infoByte := by kernel_rfl
  cellsByte := by kernel_rfl
  sizeByte := by kernel_rfl
  neB5 := by decide }
open Go.RowKit in
theorem Tryz.Builder_WriteByte (B b : Nat) (bs : List Value) (c : Int) (w : World) (h : Lib.IsBuilder 161 5 B b bs w) (hlen : bs.length + 1 ≤ 140737488355328) (hBw : B ≤ w.heap.size) :
    Calls Tryz.prog 138 #[.pointer (some ⟨b, 0, none⟩), .int .u8 c] w fun e w' => e = .returned .nilIface ∧ (Lib.BuilderAt 161 5 B b (.pointer (some ⟨b, 0, none⟩)) (bs ++ [.int .u8 c]) w' ∧ Below B w w') := Any.Builder_WriteByte Tryz.lays167 Tryz.Builder_Extra_167 B b bs c w h hlen hBw
def Tryz.lays166_ren : Go.Shelf.Ren := ⟨fun | 166 => 139 | 240 => 203 | 276 => 246 | n => n, fun | 0 => 0 | 3 => 3 | 4 => 4 | 5 => 5 | 9 => 9 | 20 => 20 | 37 => 159 | 70 => 158 | 72 => 161 | 75 => 153 | 80 => 167 | 164 => 230 | n => n, fun | n => n⟩
theorem Tryz.lays166 : Go.Proofs.Lays.n166 Tryz.prog Tryz.lays166_ren := {
  mixed := by kernel_rfl
  f166 := Tryz.func139.trans (congrArg some (by kernel_rfl))
  f240 := Tryz.func203.trans (congrArg some (by kernel_rfl))
  f276 := Tryz.func246.trans (congrArg some (by kernel_rfl))
  t0 := Tryz.underlying0
  a0 := Tryz.isAgg0
  z0 := Tryz.sizeOf0
  v0 := Tryz.zeroValue0
  t3 := Tryz.underlying3
  a3 := Tryz.isAgg3
  z3 := Tryz.sizeOf3
  v3 := Tryz.zeroValue3
  t4 := Tryz.underlying4
  a4 := Tryz.isAgg4
  z4 := Tryz.sizeOf4
  v4 := Tryz.zeroValue4
  t9 := Tryz.underlying9
  a9 := Tryz.isAgg9
  z9 := Tryz.sizeOf9
  v9 := Tryz.zeroValue9
  t20 := Tryz.underlying20
  a20 := Tryz.isAgg20
  z20 := Tryz.sizeOf20
  v20 := Tryz.zeroValue20
  t37 := Tryz.underlying159
  a37 := Tryz.isAgg159
  z37 := Tryz.sizeOf159
  v37 := Tryz.zeroValue159
  t70 := Tryz.underlying158
  a70 := Tryz.isAgg158
  z70 := Tryz.sizeOf158
  v70 := Tryz.zeroValue158
  t72 := Tryz.underlying161
  a72 := Tryz.isAgg161
  z72 := Tryz.sizeOf161
  v72 := Tryz.zeroValue161
  t75 := Tryz.underlying153
  a75 := Tryz.isAgg153
  z75 := Tryz.sizeOf153
  v75 := Tryz.zeroValue153
  t164 := Tryz.underlying230
  a164 := Tryz.isAgg230
  z164 := Tryz.sizeOf230
  v164 := Tryz.zeroValue230 }
theorem Tryz.Builder_Extra_166 : Builder.Extra Tryz.prog Tryz.lays166_ren := {
  sizeBuilder := by kernel_rfl
  liesBuilder := by kernel_rfl
  t5 := Tryz.underlying5
  a5 := Tryz.isAgg5
  z5 := Tryz.sizeOf5
  v5 := Tryz.zeroValue5
  infoByte := by kernel_rfl
  cellsByte := by kernel_rfl
  sizeByte := by kernel_rfl
  neB5 := by decide }
open Go.RowKit in
theorem Tryz.Builder_WriteString (B b : Nat) (bs : List Value) (s : ByteArray) (w : World) (h : Lib.IsBuilder 161 5 B b bs w) (hlen : bs.length + s.size ≤ 140737488355328) (hBw : B ≤ w.heap.size) :
    Calls Tryz.prog 139 #[.pointer (some ⟨b, 0, none⟩), .string s] w fun e w' => e = .returned (.tuple #[.int .i64 s.size, .nilIface]) ∧ (Lib.BuilderAt 161 5 B b (.pointer (some ⟨b, 0, none⟩)) (bs ++ Lib.strCells s) w' ∧ Below B w w') := Any.Builder_WriteString Tryz.lays166 Tryz.Builder_Extra_166 B b bs s w h hlen hBw
end Go.Proofs
/- What package integer asks of Go's library, in plain words over lists of bytes. -/
namespace Go.Proofs.YtgnppdkeiihlfaaGreatDoor
open Go.RowKit Num
theorem fmt_dec (n : Nat) : fmt n = Lib.decDigits n := by
  induction n using Nat.strongRecOn with
  | ind n ih =>
    by_cases h : n < 10
    · rw [fmt_digit n h, Lib.decDigits_one h]; unfold dg; rw [Nat.mod_eq_of_lt h]
    · rw [Lib.decDigits, dif_neg h, ← ih _ (by omega)]
      conv => lhs; rw [show n = 10 * (n / 10) + n % 10 by omega]
      rw [fmt_step _ _ (by omega) (by omega)]
      unfold dg
      rw [Nat.mod_mod]
theorem parseM (l : List UInt8) (acc : Nat) (hd : l.all isDig = true) (hb : acc * 10 ^ l.length + nat l < 1000000000) : Lib.parseUintM (2 ^ 64 - 1) acc l = .ok (acc * 10 ^ l.length + nat l) := by
  induction l generalizing acc with
  | nil => simp [Lib.parseUintM, nat]
  | cons c l ih =>
    simp only [List.all_cons, Bool.and_eq_true] at hd
    have hc := hd.1
    simp [isDig] at hc
    have hb' := hb
    rw [nat_cons, List.length_cons, Nat.pow_succ] at hb'
    clear hb
    have hpos : 0 < 10 ^ l.length := Nat.pow_pos (by omega)
    have e : acc * (10 ^ l.length * 10) + ((c.toNat - 48) * 10 ^ l.length + nat l) = (acc * 10 + (c.toNat - 48)) * 10 ^ l.length + nat l := by
      rw [Nat.add_mul, Nat.mul_assoc acc 10, Nat.mul_comm 10, Nat.add_assoc]
    rw [e] at hb'
    have h1 : acc * 10 + (c.toNat - 48) ≤ (acc * 10 + (c.toNat - 48)) * 10 ^ l.length := Nat.le_mul_of_pos_right _ hpos
    rw [Lib.parseUintM, if_pos ⟨by omega, by omega⟩, if_neg (by omega), if_neg (by omega), ih _ hd.2 hb', nat_cons, List.length_cons, Nat.pow_succ 10 l.length, e]
theorem parse_ok (l : List UInt8) (h0 : l ≠ []) (hd : l.all isDig = true) (hl : l.length ≤ 9) : Lib.parseUintB 64 l = .ok (nat l) := by
  have h1 := nat_lt l hd
  have h2 : 10 ^ l.length ≤ 10 ^ 9 := Nat.pow_le_pow_right (by omega) hl
  have := parseM l 0 hd (by omega)
  simp only [Nat.zero_mul, Nat.zero_add] at this
  unfold Lib.parseUintB
  rw [if_neg h0, this]
def DIG : List UInt8 := [48, 49, 50, 51, 52, 53, 54, 55, 56, 57]
theorem dig_contains (b : UInt8) : DIG.contains b = isDig b := by
  unfold DIG isDig
  have h : ∀ n : Fin 256, ([48, 49, 50, 51, 52, 53, 54, 55, 56, 57] : List UInt8).contains (UInt8.ofNat n.1) = (decide (48 ≤ (UInt8.ofNat n.1).toNat) && decide ((UInt8.ofNat n.1).toNat ≤ 57)) := by decide +kernel
  have := h ⟨b.toNat, UInt8.toNat_lt b⟩
  rwa [UInt8.ofNat_toNat] at this
theorem dropWhile_nil_iff {α : Type} (p : α → Bool) (l : List α) : l.dropWhile p = [] ↔ l.all p = true := by
  induction l with
  | nil => simp
  | cons a l ih => rw [List.dropWhile_cons]; by_cases h : p a = true <;> simp_all
theorem dropWhile_head {α : Type} (p : α → Bool) (l : List α) (x : α) (r : List α) (h : l.dropWhile p = x :: r) : p x = false := by
  induction l with
  | nil => simp at h
  | cons a l ih =>
    rw [List.dropWhile_cons] at h
    by_cases hp : p a = true
    · rw [if_pos hp] at h; exact ih h
    · rw [if_neg hp] at h; injection h with h1 _; subst h1; simpa using hp
theorem trim_dig (l : List UInt8) : (Lib.trimS l DIG).isEmpty = l.all isDig := by
  have hc : (fun b : UInt8 => DIG.contains b) = isDig := funext dig_contains
  unfold Lib.trimS Lib.trimLeftS Lib.trimRightS
  rw [hc]
  rw [Bool.eq_iff_iff, List.isEmpty_iff, dropWhile_nil_iff]
  constructor
  · intro h
    cases hr : l.reverse.dropWhile isDig with
    | nil =>
      rw [dropWhile_nil_iff] at hr
      simpa using hr
    | cons x r =>
      have hx := dropWhile_head isDig _ _ _ hr
      rw [hr] at h
      simp [hx] at h
  · intro h
    have : l.reverse.dropWhile isDig = [] := by rw [dropWhile_nil_iff]; simpa using h
    simp [this]
theorem trim_zero (l : List UInt8) : Lib.trimLeftS l [48] = sig l := by
  unfold Lib.trimLeftS sig
  congr 1
  funext b
  rw [Bool.eq_iff_iff]; simp
theorem pre_neg (l : List UInt8) : Lib.hasPrefix l [45] = isNeg l := by
  cases l with
  | nil => rfl
  | cons a t =>
    simp only [Lib.hasPrefix, isNeg, List.isPrefixOf, List.head?_cons, Bool.and_true]
    rw [Bool.eq_iff_iff]; simp; exact eq_comm
theorem pre_rest (l : List UInt8) : Lib.trimPrefix l [45] = rest l := by
  unfold Lib.trimPrefix rest
  rw [pre_neg]
  simp
theorem repeat_zero (c : Nat) : Lib.repeatL [48] c = List.replicate c 48 := by
  induction c with
  | zero => rfl
  | succ c ih => rw [Lib.repeatL, ih, List.replicate_succ]; rfl
def Glob (w : World) : Prop := Lib.TabIs Tryz.prog w "internal/strconv.uint64pow10" .u64 Lib.pow10Tab ∧ ∃ m : Int, w.cell? ⟨3, 0, none⟩ = some (.int .i64 m)
theorem tab_below {w w' : World} {name : String} {k : IntKind} {zs : List Int} (h : Lib.TabIs Tryz.prog w name k zs) (hb : Below w.heap.size w w') : Lib.TabIs Tryz.prog w' name k zs := by
  unfold Lib.TabIs World.var? at *
  cases hg : Tryz.prog.globalNamed name with
  | none => simp [hg] at h
  | some g =>
    simp only [hg, Option.bind_some] at h ⊢
    have hlt : g < w.heap.size := by
      rcases Nat.lt_or_ge g w.heap.size with h' | h'
      · exact h'
      · rw [Array.getElem?_eq_none h'] at h; simp at h
    rw [hb.block g hlt]
    exact h
theorem Glob.below {w w' : World} (h : Glob w) (hb : Below w.heap.size w w') : Glob w' :=
  ⟨tab_below h.1 hb, h.2.elim fun m hm => ⟨m, (hb.cell (p := ⟨3, 0, none⟩) (World.block_lt_of_cell? w _ hm)).trans hm⟩⟩
theorem bdrewN {B : Nat} {a w : World} (h : Below B a w) (n : Nat) : Below B a (w.drewN n) := ⟨h.os, h.tape, h.output, h.size, h.block⟩
theorem bto {w w1 w2 : World} (h : Below w.heap.size w w1) (k : Below w1.heap.size w1 w2) : Below w.heap.size w w2 := h.trans (k.mono h.size)
theorem holds_zero0 (w : World) (T : TypeId) (nd : Nat) (hs : nd ≤ 24) : Sort.Holds (fun (b : UInt8) => Value.int .u8 (b.toNat : Int)) (w.alloc (.cells Lib.zeros24 T)) w.heap.size 0 (Array.replicate nd (0 : UInt8)) := fun j hj => by
  have hj' : j < nd := by simpa using hj
  refine ⟨?_, World.frozen?_alloc_new _ _ _ _⟩
  rw [World.cell?_alloc_new, Lib.zeros24_at _ (by omega), getElem!_pos _ j hj]
  simp
theorem below_putRow (w : World) (o : Obj) (dk : Array UInt8) (k : Nat) : Below w.heap.size w ((Sort.putRow (fun (b : UInt8) => Value.int .u8 (b.toNat : Int)) (w.alloc o) w.heap.size 0 dk).drewN k) := by
  rw [Sort.alloc_eq_grow]
  obtain ⟨os', _, e⟩ := Sort.putRow_grow_new (fun (b : UInt8) => Value.int .u8 (b.toNat : Int)) w #[o] w.heap.size 0 dk (Nat.le_refl _)
  rw [e]
  exact ⟨rfl, rfl, rfl, by simp [Sort.grow, World.drewN], fun i hi => Sort.heap_grow_old w os' hi⟩
set_option maxHeartbeats 2000000 in
set_option maxRecDepth 100000 in
theorem iformat_any (u : Nat) (hu : u < 18446744073709551616) (w : World) (hG : Glob w) :
    Calls Tryz.prog 204 #[.int .u64 u, .int .i64 10] w fun e w' => e = .returned (.string ⟨(fmt u).toArray⟩) ∧ Below w.heap.size w w' := by
  rw [fmt_dec]
  by_cases hi : u < 100
  · go_enter Tryz.func204, Tryz.ntmps204
    go_wp2_with (go_at_call 247; refine (Tryz.internal_strconv_small u hi _).mono ?_; rintro e w' ⟨rfl, rfl⟩)
    go_ret
    exact ⟨rfl, Below.refl _ _⟩
  · have hu1 : 1 ≤ u := by omega
    have hnd20 : Lib.nDigits u ≤ 20 := by have := Lib.numDigits_eq u hu1 hu; split at this <;> omega
    have hal : Tryz.prog.arrayLen 232 = 24 := by simp [Program.arrayLen, Tryz.underlying232]
    have hsl1 : ∀ W, (Instr.sliceAt 232 (.pointer (some ⟨w.heap.size, 0, none⟩)) none (some (.int .i64 (Lib.nDigits u : Int))) none).run Tryz.prog W = .ok (.slice (some ⟨w.heap.size, 0, none⟩) (Lib.nDigits u) 24) W := fun W => by
      rw [run_sliceAt_array_h W 232 ⟨w.heap.size, 0, none⟩ (by simp [Program.arrayLen, Program.elem, Tryz.underlying232]) .i64 (Lib.nDigits u : Int) (by omega) (by rw [hal]; omega)]
      go_simp
    have hH0 := holds_zero0 w 232 (Lib.nDigits u) (by omega)
    have hfmt := Tryz.internal_strconv_formatBase10 w.heap.size 0 24 u (Array.replicate (Lib.nDigits u) 0) (w.alloc (.cells Lib.zeros24 232)) hH0 (by rw [Array.size_replicate]; exact Lib.lt_pow_nDigits u) hu (by rw [Array.size_replicate]; omega)
    rw [Array.size_replicate] at hfmt
    have HH0 := Lib.hid hH0
    have HF := Lib.hid hfmt
    clear hH0 hal hfmt
    go_enter Tryz.func204, Tryz.ntmps204
    go_wp2_with (go_at_call 248; refine (Tryz.internal_strconv_numDigits u hu1 hu _ (Lib.tabIs_alloc hG.1 _)).mono ?_; rintro e w' ⟨rfl, rfl⟩)
    go_at_call 249
    refine HF.out.mono ?_
    rintro e w' ⟨rfl, k, v', dk, rfl, hF⟩
    have hcv : (convert 159 9 (.slice (some ⟨w.heap.size, 0, none⟩) (Lib.nDigits u) 24)).run Tryz.prog ((Sort.putRow (fun (b : UInt8) => Value.int .u8 (b.toNat : Int)) (w.alloc (.cells Lib.zeros24 232)) w.heap.size 0 dk).drewN k) = .ok (.string ⟨(Lib.decDigits u).toArray⟩) ((Sort.putRow (fun (b : UInt8) => Value.int .u8 (b.toNat : Int)) (w.alloc (.cells Lib.zeros24 232)) w.heap.size 0 dk).drewN k) := by
      have h := run_convert_bytes_back (P := Tryz.prog) ((Sort.putRow (fun (b : UInt8) => Value.int .u8 (b.toNat : Int)) (w.alloc (.cells Lib.zeros24 232)) w.heap.size 0 dk).drewN k) 159 9 5 ⟨w.heap.size, 0, none⟩ 24 (Lib.decDigits u) Tryz.underlying159 Tryz.underlying5 Tryz.underlying9 (fun j hj => by
        rw [Lib.row_is_numeral hF j hj, Lib.add_plain, World.cell?_drewN]
        exact Sort.cell?_putRow (fun (b : UInt8) => Value.int .u8 (b.toNat : Int)) _ w.heap.size 0 _ dk HH0.out (by rw [hF.size, Array.size_replicate]) j (by rw [hF.size]; rw [Lib.decDigits_length] at hj; exact hj))
      rw [Lib.decDigits_length] at h
      exact h
    go_wp2
    go_ret
    exact ⟨rfl, below_putRow _ _ _ _⟩
theorem format_any (u : Nat) (hu : u < 18446744073709551616) (w : World) (hG : Glob w) :
    Calls Tryz.prog 140 #[.int .u64 u, .int .i64 10] w fun e w' => e = .returned (.string ⟨(fmt u).toArray⟩) ∧ Below w.heap.size w w' := by
  go_enter Tryz.func140, Tryz.ntmps140
  go_wp2_with (go_at_call 204; refine (iformat_any u hu _ hG).mono ?_; rintro e w' ⟨rfl, hb⟩)
  go_ret
  exact ⟨rfl, hb⟩
theorem cutPrefix_any (l : List UInt8) (w : World) :
    Calls Tryz.prog 195 #[.string ⟨l.toArray⟩, .string ⟨#[45]⟩] w fun e w' => e = .returned (.tuple #[.string ⟨(rest l).toArray⟩, .bool (isNeg l)]) ∧ w = w' := by
  refine (Tryz.strings_CutPrefix ⟨l.toArray⟩ ⟨#[45]⟩ w).mono ?_
  rintro e w' ⟨rfl, rfl⟩
  simp only [pre_rest, pre_neg, and_self]
theorem trim_any (l : List UInt8) (w : World) (hl : l.length ≤ 9223372036854775807) :
    Calls Tryz.prog 196 #[.string ⟨l.toArray⟩, .string ⟨#[48, 49, 50, 51, 52, 53, 54, 55, 56, 57]⟩] w fun e w' => (∃ t : List UInt8, t.isEmpty = l.all isDig ∧ e = .returned (.string ⟨t.toArray⟩)) ∧ Below w.heap.size w w' := by
  refine (Tryz.strings_Trim ⟨l.toArray⟩ ⟨#[48, 49, 50, 51, 52, 53, 54, 55, 56, 57]⟩ w (by simpa [ByteArray.size] using hl) (by decide) (ascii_of_all (by decide))).mono ?_
  rintro e w' ⟨rfl, hb⟩
  exact ⟨⟨_, trim_dig l, rfl⟩, hb⟩
theorem trimLeft_any (l : List UInt8) (w : World) :
    Calls Tryz.prog 197 #[.string ⟨l.toArray⟩, .string ⟨#[48]⟩] w fun e w' => e = .returned (.string ⟨(sig l).toArray⟩) ∧ Below w.heap.size w w' := by
  refine (Tryz.strings_TrimLeft ⟨l.toArray⟩ ⟨#[48]⟩ w (by decide) (ascii_of_all (by decide))).mono ?_
  rintro e w' ⟨rfl, hb⟩
  refine ⟨?_, hb⟩
  simp only [trim_zero]
theorem bytesWorld_below (w : World) (t : TypeId) (s : ByteArray) : Below w.heap.size w (Lib.bytesWorld w t s) := by
  exact Joins.below_bytesWorld _ w t s (Nat.le_refl _)
theorem parse_any (l : List UInt8) (w : World) (h0 : l ≠ []) (hd : l.all isDig = true) (hl : l.length ≤ 9) :
    Calls Tryz.prog 135 #[.string ⟨l.toArray⟩, .int .i64 10, .int .i64 64] w fun e w' => e = .returned (.tuple #[.int .u64 (nat l : Nat), .nilIface]) ∧ Below w.heap.size w w' := by
  refine (Tryz.strconv_ParseUint_10_at64_ok ⟨l.toArray⟩ (by simp [ByteArray.size]; omega) (nat l) (parse_ok l h0 hd hl) w).mono ?_
  rintro e w' ⟨rfl, h⟩
  refine ⟨rfl, ?_⟩
  rcases h with rfl | rfl
  · exact Below.refl _ _
  · exact bytesWorld_below _ _ _
theorem repeat_any (c : Nat) (w : World) (hc : c ≤ 1000) :
    Calls Tryz.prog 141 #[.string ⟨#[48]⟩, .int .i64 c] w fun e w' => e = .returned (.string ⟨(List.replicate c (48 : UInt8)).toArray⟩) ∧ Below w.heap.size w w' := by
  refine (Tryz.strings_Repeat ⟨#[48]⟩ c w (by omega) (by simp [ByteArray.size]; omega)).mono ?_
  rintro e w' ⟨rfl, hb⟩
  refine ⟨?_, hb⟩
  show Ending.returned (Value.string ⟨(Lib.repeatL [48] c).toArray⟩) = _
  rw [repeat_zero]
theorem repeat_int (z : Int) (c : Nat) (w : World) (hz : z = c) (hc : c ≤ 1000) :
    Calls Tryz.prog 141 #[.string ⟨#[48]⟩, .int .i64 z] w fun e w' => e = .returned (.string ⟨(List.replicate c (48 : UInt8)).toArray⟩) ∧ Below w.heap.size w w' := by
  subst hz; exact repeat_any c w hc
end Go.Proofs.YtgnppdkeiihlfaaGreatDoor
/- Package integer: digits, read, (number).text, Canonical, Check, Print, Parse. -/
namespace Go.Proofs.YtgnppdkeiihlfaaGreatDoor
open Go.RowKit Num
theorem digs_ok {l : List UInt8} (h : (rest l).all isDig = true) : digs l = sig (rest l) := by unfold digs okDig; rw [if_pos h]
theorem digs_no {l : List UInt8} (h : (rest l).all isDig = false) : digs l = [] := by unfold digs okDig; rw [h]; rfl
theorem negB_ok {l : List UInt8} (h : (rest l).all isDig = true) : negB l = (isNeg l && !(sig (rest l)).isEmpty) := by unfold negB; rw [digs_ok h]
theorem negB_no {l : List UInt8} (h : (rest l).all isDig = false) : negB l = false := by unfold negB; rw [digs_no h]; simp
theorem rest_len (l : List UInt8) : (rest l).length ≤ l.length := by unfold rest; split <;> simp
theorem ret2 {a b c d : Value} (h : a = b) (k : c = d) : Ending.returned (.tuple #[a, c]) = .returned (.tuple #[b, d]) := by rw [h, k]
theorem str_eq {a b : List UInt8} (h : a = b) : Value.string ⟨a.toArray⟩ = .string ⟨b.toArray⟩ := by rw [h]
set_option maxHeartbeats 400000 in
theorem digits_any (l : List UInt8) (w : World) (hl : l.length ≤ 1000000000) :
    Calls Tryz.prog 134 #[.string ⟨l.toArray⟩] w fun e w' => e = .returned (.tuple #[.string ⟨(digs l).toArray⟩, .bool (negB l)]) ∧ Below w.heap.size w w' := by
  have hr := rest_len l
  go_enter Tryz.func134, Tryz.ntmps134
  go_wp2_with (go_at_call 195; refine (cutPrefix_any l _).mono ?_; rintro e w' ⟨rfl, rfl⟩)
  refine (trim_any (rest l) _ (by omega)).mono ?_
  rintro e w1 ⟨⟨t, ht, rfl⟩, hb1⟩
  by_cases hd : (rest l).all isDig = true
  · have ht0 : t = [] := by rw [hd] at ht; exact List.isEmpty_iff.1 ht
    subst ht0
    have HD := Lib.hid hd
    clear hd ht
    go_wp2_with (go_at_call 197; refine (trimLeft_any (rest l) _).mono ?_; rintro e w2 ⟨rfl, hb2⟩)
    all_goals go_ret2
    · have hn : isNeg l = true := by assumption
      exact ⟨ret2 (str_eq (digs_ok HD.out).symm) (by rw [negB_ok HD.out, hn]; simp), bto hb1 hb2⟩
    · have hn : isNeg l = false := by rename_i h; simpa using h
      exact ⟨ret2 (str_eq (digs_ok HD.out).symm) (by rw [negB_ok HD.out, hn]; simp), bto hb1 hb2⟩
  · have hd' : (rest l).all isDig = false := by simpa using hd
    have ht0 : t.isEmpty = false := by rw [ht, hd']
    have ht1 : (!t.isEmpty) = true := by rw [ht0]; rfl
    have HD := Lib.hid hd'
    clear hd ht hd'
    go_wp2_with fail
    go_ret2
    exact ⟨ret2 (str_eq (digs_no HD.out).symm) (by rw [negB_no HD.out]; rfl), hb1⟩
def Mag (w : World) (base : Nat) (v : Value) (m : Nat) : Prop := w.ownsRow base 151 1 v (grp m).length (U (grp m))
theorem Mag.form {w : World} {base : Nat} {v : Value} {m : Nat} (h : Mag w base v m) : ∃ A c, v = .slice A (grp m).length c := by
  rcases h.2 with ⟨rfl, h0⟩ | ⟨g, cap, cur, rfl, _⟩
  · exact ⟨none, 0, by rw [h0]⟩
  · exact ⟨_, _, rfl⟩
theorem mag_of {w : World} {base n : Nat} {v : Value} {l : List Nat} {m : Nat} (h : w.ownsRow base 151 1 v n (U l)) (hl : l = grp m) : Mag w base v m := by
  subst hl
  have h1 : (grp m).length = n := by have := h.1; simpa using this
  subst h1
  exact h
theorem Mag.below {w w' : World} {base : Nat} {v : Value} {m : Nat} (h : Mag w base v m) (hb : Below w.heap.size w w') : Mag w' base v m := own_below h hb
theorem Mag.base {w : World} {base base' : Nat} {v : Value} {m : Nat} (h : Mag w base v m) (hb : base' ≤ base) : Mag w base' v m := own_base h hb
theorem grp_read (t : List UInt8) (h0 : t ≠ []) (hd : t.all isDig = true) (hh : t.head? ≠ some 48) : grp (nat t) = nat (t.drop (t.length - 9)) :: grp (nat (t.take (t.length - 9))) := by
  have h1 := readG_grp (t.length + 1) t (by omega) hd hh
  rw [← h1, readG, if_neg h0]
  congr 1
  apply readG_grp
  · simp
  · rw [List.all_eq_true] at *; intro x hx; exact hd x (List.mem_of_mem_take hx)
  · cases t with
    | nil => simp at h0
    | cons a t =>
      cases h : (a :: t).length - 9 with
      | zero => simp
      | succ k => simpa using hh
theorem extract_list (l : List UInt8) (a b : Nat) : (⟨l.toArray⟩ : ByteArray).extract a b = ⟨((l.take b).drop a).toArray⟩ := by
  apply ByteArray.ext
  apply Array.ext'
  rw [Lib.extract_data]
  simp only
  rw [List.drop_take]
theorem read_step {s : List UInt8} {G : List Nat} {e : Nat} (he : 0 < e) (hl : e ≤ s.length) (hd : s.all isDig = true) (hh : s.head? ≠ some 48) (h : G ++ grp (nat (s.take e)) = grp (nat s)) :
    (G ++ [nat ((s.take e).drop (e - 9))]) ++ grp (nat (s.take (e - 9))) = grp (nat s) := by
  have hlen : (s.take e).length = e := by simp; omega
  have h1 := grp_read (s.take e) (by intro h0; rw [h0] at hlen; simp at hlen; omega) (by rw [List.all_eq_true] at *; intro x hx; exact hd x (List.mem_of_mem_take hx)) (by
    cases s with
    | nil => simp
    | cons a t => cases e with
      | zero => omega
      | succ k => simpa using hh)
  rw [hlen, List.take_take, Nat.min_eq_left (by omega)] at h1
  rw [← h, h1]; simp
set_option maxHeartbeats 1000000 in
set_option maxRecDepth 100000 in
theorem read_any (l : List UInt8) (w : World) (hl : l.length ≤ 1000000000) :
    Calls Tryz.prog 67 #[.string ⟨l.toArray⟩] w fun e w' => ∃ v, e = .returned (.agg #[.bool (negB l), v]) ∧ Mag w' w.heap.size v (val l).natAbs ∧ Below w.heap.size w w' := by
  obtain ⟨i0, hi, hz0, hz1, hz2⟩ := info_parts info_u64
  obtain ⟨s, hs⟩ : ∃ s, s = digs l := ⟨_, rfl⟩
  have HN : Hid (nat s = (val l).natAbs) := by show _ = _; rw [hs, digs_dec, nat_dec]
  have hsd : s.all isDig = true := by rw [hs, digs_dec]; exact dec_digs _
  have hsh : s.head? ≠ some 48 := by rw [hs, digs_dec]; exact dec_head _
  have hsl : s.length ≤ 1000000000 := by
    refine Nat.le_trans ?_ hl
    rw [hs]; unfold digs sig
    split
    · exact Nat.le_trans (List.dropWhile_sublist _).length_le (rest_len l)
    · simp
  have HSD := Lib.hid hsd
  have HSH := Lib.hid hsh
  have HS := Lib.hid hs
  clear hsd hsh hs
  go_enter Tryz.func67, Tryz.ntmps67
  go_wp2_with (go_at_call 134; refine (digits_any l _ hl).mono ?_; rintro e w1 ⟨he, hb1⟩; rw [← HS.out] at he; subst he)
  have hz1' := hb1.size
  simp only [World.size_alloc] at hz1' hb1
  go_loopw [5, 6] (fun v i wr => ∃ (z : Int) (G : List Nat) (A : Option Addr) (c : Nat), v = .slice A G.length c ∧ i = .int .i64 z ∧ -9 < z ∧ 9 * (G.length : Int) + z ≤ s.length ∧ wr.ownsRow (w.heap.size + 1) 151 1 (.slice A G.length c) G.length (U G) ∧ Hid (G ++ grp (nat (s.take z.toNat)) = grp (nat s)) ∧ Below (w.heap.size + 1) w1 wr) (fun _ i _ => (intOf i + 9).toNat)
  case atStart => exact ⟨_, [], none, 0, rfl, rfl, by omega, by simp, World.ownsRow_nil _ _ _ _, by show _ = _; simp, Below.refl _ _⟩
  case round =>
    obtain ⟨z, G, A, c, rfl, rfl, hz, hGl, hown, HG, hbw⟩ := hrel
    have hblk := blk_new (hb1.trans hbw)
    have c0 : wr.cell? ⟨w.heap.size, 0, none⟩ = some (.bool false) := blk_cell hblk 0
    have c1 : wr.cell? ⟨w.heap.size, 1, none⟩ = some (.slice none 0 0) := blk_cell hblk 1
    have f0 := blk_frozen hblk 0
    have f1 := blk_frozen hblk 1
    clear hblk
    by_cases hz0' : z ≤ 0
    · clear hi hz0 hz1 hz2 i0
      go_wp2
      refine bodyPost_ret (v := .agg #[.bool (negB l), .slice A G.length c]) (by simp [results, Tryz.results67, go_sem, c0, c1]) rfl ?_
      have hG : G = grp (val l).natAbs := by
        have h1 := HG.out
        rw [show z.toNat = 0 by omega, List.take_zero, nat_nil, grp_zero, List.append_nil, HN.out] at h1
        exact h1
      subst hG
      have hbb : Below w.heap.size w wr := below_of_alloc (hb1.trans hbw)
      refine ⟨_, rfl, ?_, (hbb.setCell (p := ⟨w.heap.size, 0, none⟩) (Nat.le_refl _) _).setCell (p := ⟨w.heap.size, 1, none⟩) (Nat.le_refl _) _⟩
      exact own_base (ownsRow_setCell_below (a := ⟨w.heap.size, 1, none⟩) (ownsRow_setCell_below (a := ⟨w.heap.size, 0, none⟩) hown (Nat.lt_succ_self _) _) (Nat.lt_succ_self _) _) (Nat.le_succ _)
    · obtain ⟨e, rfl⟩ : ∃ e : Nat, z = e := ⟨z.toNat, by omega⟩
      obtain ⟨t, ht⟩ : ∃ t, t = (s.take e).drop (e - 9) := ⟨_, rfl⟩
      have hx : (⟨s.toArray⟩ : ByteArray).extract (max 0 ((e : Int) - 9)).toNat e = ⟨t.toArray⟩ := by rw [extract_list, ht, show (max 0 ((e : Int) - 9)).toNat = e - 9 by omega]
      have HT := Lib.hid ht
      have htl : t.length ≤ 9 := by rw [ht]; simp; omega
      have ht0 : t ≠ [] := by intro h0; rw [h0] at ht; have := congrArg List.length ht; simp at this; omega
      have htd : t.all isDig = true := by
        rw [ht, List.all_eq_true]; intro x hx'; exact (List.all_eq_true.1 HSD.out) x (List.mem_of_mem_take (List.mem_of_mem_drop hx'))
      have HT0 := Lib.hid ht0
      have HTD := Lib.hid htd
      clear ht ht0 htd
      have hz2' := hbw.size
      go_wp2_with (first
        | (go_at_call 135; refine (parse_any t _ HT0.out HTD.out htl).mono ?_; rintro e1 w2 ⟨rfl, hb2⟩; have hown2 := own_below hown hb2; have hz3 := hb2.size)
        | (at_builtin; refine wpList_append_own _ rfl _ _ 90 rfl (w.heap.size + 1) 151 i0 (.int .u64 0) 1 8 Tryz.underlying90 hi hz0 hz1 hz2 rfl (by decide) _ _ _ rfl (hown2.alloc _) ⟨w2.heap.size, 0, none⟩ 1 1 [.int .u64 (nat t : Nat)] rfl rfl ?c1 ?c2 ?c3 ?c4 ?c5 ?_))
      case c1 => exact cell_one_new _ _ _
      case c2 => intro u hu; simp at hu; subst hu; rfl
      case c3 => unfold maxLen; omega
      case c4 => omega
      case c5 => simp; omega
      intro v' w3 hown' hgrow _
      have hb3 : Below (w.heap.size + 1) w1 w3 := (((hbw.trans (hb2.mono (by omega))).alloc (by omega) _).grown hgrow (by simp; omega) (own_block_ge hown))
      obtain ⟨A', c', rfl⟩ := own_form hown'
      have HT' : Hid ((G ++ [nat t]) ++ grp (nat (s.take (e - 9))) = grp (nat s)) := by
        show _ = _
        have h1 := HG.out
        rw [Int.toNat_natCast] at h1
        rw [HT.out]
        exact read_step (by omega) (by omega) HSD.out HSH.out h1
      clear hown hown2 hgrow hb2 c0 c1 f0 f1 hx
      go_wp2
      go_roundw
      case rel => exact ⟨(e : Int) - 9, G ++ [nat t], A', c', by simp, rfl, by omega, by simp; omega, by simpa using hown', by rw [show ((e : Int) - 9).toNat = e - 9 by omega]; exact HT', hb3⟩
      case measure => simp [intOf]; omega
end Go.Proofs.YtgnppdkeiihlfaaGreatDoor
/- Package integer: (number).text. -/
namespace Go.Proofs.YtgnppdkeiihlfaaGreatDoor
open Go.RowKit Num
def sgn (neg : Bool) (n : Nat) : Int := if neg then -(n : Int) else n
theorem cutZ_take (l : List Nat) : cutZ l = l.take (cutZ l).length := by
  obtain ⟨k, hk⟩ : ∃ k, k = l.length := ⟨_, rfl⟩
  induction k generalizing l with
  | zero => have : l = [] := List.eq_nil_of_length_eq_zero hk.symm
            subst this; rfl
  | succ k ih =>
    rcases List.eq_nil_or_concat l with rfl | ⟨m, b, rfl⟩
    · rfl
    · simp only [List.concat_eq_append] at *
      by_cases hb : b = 0
      · subst hb
        have h1 := ih m (by simp at hk; omega)
        rw [cutZ_snoc_zero]
        have hle : (cutZ m).length ≤ m.length := by rw [h1]; simp; omega
        rw [List.take_append_of_le_length hle]
        exact h1
      · rw [cutZ_snoc _ _ hb, List.take_of_length_le (Nat.le_refl _)]
theorem own_cut {w : World} {base n c : Nat} {A : Option Addr} {l : List Nat} {e : TypeId} (h : w.ownsRow base e 1 (.slice A n c) n (U l)) :
    w.ownsRow base e 1 (.slice A (cutZ l).length c) (cutZ l).length (U (cutZ l)) := by
  have hl := own_len h
  have h1 := cutZ_take l
  have hle : (cutZ l).length ≤ l.length := by rw [h1]; simp; omega
  by_cases hA : A = none
  · rcases h.2 with ⟨_, h0⟩ | ⟨g, cap, cur, hv, _⟩
    · have : l = [] := List.eq_nil_of_length_eq_zero (by omega)
      subst this
      subst h0
      exact h
    · injection hv with h5; rw [hA] at h5; cases h5
  · have h2 := own_take h (k := (cutZ l).length) (by omega) hA
    rw [← h1] at h2
    exact h2
def Bld (B b : Nat) (bs : List UInt8) (w : World) : Prop := Lib.IsBuilder 161 5 B b (Lib.byteCells bs) w
theorem builderAt_below {w w' : World} {B b : Nat} {p : Value} {bs : List Value} {T e : TypeId} (h : Lib.BuilderAt T e B b p bs w) (hb : Below w.heap.size w w') : Lib.BuilderAt T e B b p bs w' := by
  have hlt := h.lt
  obtain ⟨h1, v, h2, h3, h4⟩ := h
  exact ⟨h1, v, (hb.block b hlt).trans h2, own_below h3 hb, h4⟩
theorem Bld.below {w w' : World} {B b : Nat} {bs : List UInt8} (h : Bld B b bs w) (hb : Below w.heap.size w w') : Bld B b bs w' := by
  rcases h with h | h
  · exact .inl (builderAt_below h hb)
  · exact .inr (builderAt_below h hb)
theorem bld_new (w : World) : Bld w.heap.size w.heap.size [] (w.alloc (.cells #[.pointer none, .slice none 0 0] 161)) :=
  .inl ⟨Nat.le_refl _, _, heap_alloc_new w _, World.ownsRow_nil _ _ _ _, by simp [Value.ownBlock]⟩
theorem wbyte_any (B b : Nat) (bs : List UInt8) (w : World) (h : Bld B b bs w) (hlen : bs.length ≤ 100000000000) (hBw : B ≤ w.heap.size) :
    Calls Tryz.prog 138 #[.pointer (some ⟨b, 0, none⟩), .int .u8 45] w fun e w' => e = .returned .nilIface ∧ Bld B b (bs ++ [45]) w' ∧ Below B w w' := by
  refine (Tryz.Builder_WriteByte B b (Lib.byteCells bs) 45 w h (by rw [Lib.byteCells_length]; omega) hBw).mono ?_
  rintro e w' ⟨rfl, h1, h2⟩
  refine ⟨rfl, .inr ?_, h2⟩
  have : Lib.byteCells (bs ++ [45]) = Lib.byteCells bs ++ [.int .u8 45] := by simp [Lib.byteCells]
  rw [this]; exact h1
theorem wstr_any (B b : Nat) (bs t : List UInt8) (w : World) (h : Bld B b bs w) (hlen : bs.length ≤ 100000000000) (ht : t.length ≤ 100000000000) (hBw : B ≤ w.heap.size) :
    Calls Tryz.prog 139 #[.pointer (some ⟨b, 0, none⟩), .string ⟨t.toArray⟩] w fun e w' => e = .returned (.tuple #[.int .i64 t.length, .nilIface]) ∧ Bld B b (bs ++ t) w' ∧ Below B w w' := by
  refine (Tryz.Builder_WriteString B b (Lib.byteCells bs) ⟨t.toArray⟩ w h (by rw [Lib.byteCells_length]; show bs.length + t.toArray.size ≤ _; simp; omega) hBw).mono ?_
  rintro e w' ⟨rfl, h1, h2⟩
  refine ⟨by simp [ByteArray.size], .inr ?_, h2⟩
  have : Lib.byteCells (bs ++ t) = Lib.byteCells bs ++ Lib.strCells ⟨t.toArray⟩ := by simp [Lib.byteCells, Lib.strCells]
  rw [this]; exact h1
theorem bstring_any (B b : Nat) (bs : List UInt8) (w : World) (h : Bld B b bs w) (hBw : B ≤ w.heap.size) :
    Calls Tryz.prog 142 #[.pointer (some ⟨b, 0, none⟩)] w fun e w' => e = .returned (.string ⟨bs.toArray⟩) ∧ Below B w w' := Tryz.Builder_String_any B b bs w h hBw
theorem str_add (x y : List UInt8) (hx : x.length ≤ 1000000) (hy : y.length ≤ 1000000) (W : World) : (Op.stringOp .add ⟨x.toArray⟩ ⟨y.toArray⟩).run Tryz.prog W = .ok (.string ⟨(x ++ y).toArray⟩) W := by
  have := run_string_add_lists (P := Tryz.prog) W x y (by omega) (by omega)
  exact this
set_option maxHeartbeats 1000000 in
set_option maxRecDepth 100000 in
theorem text_zero (neg : Bool) (A : Option Addr) (n c : Nat) (l : List Nat) (w : World) (base : Nat) (h : w.ownsRow base 151 1 (.slice A n c) n (U l)) (h0 : cutZ l = []) :
    Calls Tryz.prog 76 #[.agg #[.bool neg, .slice A n c]] w fun e w' => e = .returned (.string ⟨#[]⟩) ∧ Below w.heap.size w w' := by
  have h' := own_below h ((Below.refl _ w).alloc (Nat.le_refl _) (.cells #[.bool neg, .slice A n c] 92))
  have hl0 : (cutZ l).length = 0 := by rw [h0]; rfl
  go_enter Tryz.func76, Tryz.ntmps76
  go_wp2_with (go_at_call 137; refine (cut_any A n c l _ base h').mono ?_; rintro e w1 ⟨rfl, rfl⟩)
  go_ret
  exact ⟨rfl, (Below.refl _ _).alloc (Nat.le_refl _) _⟩
theorem txt_len (l : List Nat) (hs : small l) : (txt l).length ≤ 9 * l.length := by
  induction l with
  | nil => simp [txt]
  | cons g l ih =>
    have hg : g < 10 ^ 9 := hs g (by simp)
    have := ih (fun x hx => hs x (by simp [hx]))
    simp only [txt, List.length_cons]
    split
    · have := fmt_len_le g 9 (by omega) hg; omega
    · rw [List.length_append, pad_len 9 g (by omega) hg]; omega
def pre (neg : Bool) : List UInt8 := if neg then [45] else []
theorem pre_len (neg : Bool) : (pre neg).length ≤ 1 := by cases neg <;> simp [pre]
theorem canon_pre (neg : Bool) (l : List Nat) (hs : small l) (h0 : cutZ l ≠ []) : pre neg ++ txt (cutZ l) = canon (sgn neg (gv l)) := by
  have h1 := txt_dec _ (cutZ_small l hs) (cutZ_norm l)
  rw [gv_cutZ] at h1
  rw [h1]
  have h2 : gv l ≠ 0 := by
    intro e
    rw [cutZ_eq l hs, e] at h0
    exact h0 rfl
  cases neg
  · unfold pre sgn canon
    simp only [Bool.false_eq_true, if_false, List.nil_append]
    rw [if_neg (by omega)]; simp
  · unfold pre sgn canon
    simp only [if_true]
    rw [if_pos (by omega)]; simp
theorem txt_step (g : List Nat) (k x : Nat) (h : g[k]? = some x) (hk : k + 1 < g.length) : txt (g.drop k) = txt (g.drop (k + 1)) ++ pad 9 x := by
  obtain ⟨h1, rfl⟩ := List.getElem?_eq_some_iff.1 h
  exact txt_drop g k hk
set_option maxHeartbeats 2000000 in
set_option maxRecDepth 100000 in
theorem text_pos (neg : Bool) (A : Option Addr) (n c : Nat) (l : List Nat) (w : World) (base : Nat) (h : w.ownsRow base 151 1 (.slice A n c) n (U l)) (hs : small l) (hG : Glob w) (hn : n ≤ 1000000000) (h0 : cutZ l ≠ []) :
    Calls Tryz.prog 76 #[.agg #[.bool neg, .slice A n c]] w fun e w' => e = .returned (.string ⟨(pre neg ++ txt (cutZ l)).toArray⟩) ∧ Below w.heap.size w w' := by
  have hbox := (Below.refl w.heap.size w).alloc (Nat.le_refl _) (.cells #[.bool neg, .slice A n c] 92)
  have h' := own_below h hbox
  have hcz := own_cut h
  have hlen := own_len h
  obtain ⟨g, hg⟩ : ∃ g, g = cutZ l := ⟨_, rfl⟩
  have hgs : small g := by rw [hg]; exact cutZ_small l hs
  have hgl : g.length ≤ 1000000000 := by
    have := congrArg List.length (cutZ_take l)
    rw [List.length_take, ← hg] at this
    omega
  rw [← hg] at hcz h0 ⊢
  have hg1 : 1 ≤ g.length := List.length_pos_iff.2 h0
  have Hg := Lib.hid hg
  clear hg
  obtain ⟨hc1, hc2⟩ := own_cap hcz
  unfold maxLen at hc2
  have HG := Lib.hid hG
  have HGS := Lib.hid hgs
  clear hG hgs h0 hs hlen
  go_enter Tryz.func76, Tryz.ntmps76
  go_upto_if 14 with (go_at_call 137; refine (cut_any A n c l _ base h').mono ?_; rintro e w1 ⟨he, rfl⟩; rw [← Hg.out] at he; subst he)
  go_cut [] (fun wx => Bld (w.heap.size + 1) (w.heap.size + 1) (pre neg) wx ∧ Below (w.heap.size + 1) (w.alloc (.cells #[.bool neg, .slice A n c] 92)) wx)
  case first =>
    have hbn := bld_new (w.alloc (.cells #[.bool neg, .slice A n c] 92))
    simp only [World.size_alloc] at hbn
    cases neg
    · go_wp2_with fail
      go_meet
      exact ⟨hbn, (Below.refl _ _).alloc (by simp) _⟩
    · go_wp2_with (go_at_call 138; refine (wbyte_any _ _ _ _ hbn (by simp) (by simp)).mono ?_; rintro e w2 ⟨rfl, hbn2, hb2⟩)
      go_meet
      exact ⟨hbn2, ((Below.refl _ _).alloc (by simp) _).trans hb2⟩
  case rest =>
    obtain ⟨hbd, hbw⟩ := hcut
    have hbw' := below_of_alloc hbw
    have hown := own_below hcz hbw'
    have hGc := HG.out.below hbw'
    have hz := hbw.size
    simp only [World.size_alloc] at hz
    have hpl := pre_len neg
    obtain ⟨ga, x, rfl, hx, _, _, hcell, _⟩ := own_at hown (k := g.length - 1) (by omega)
    have hxb : x < 1000000000 := HGS.out x (List.mem_of_getElem? hx)
    have HX := Lib.hid hx
    have HF : Hid (pre neg ++ fmt x = pre neg ++ txt (g.drop (g.length - 1))) := by show _ = _; rw [txt_last g x HX.out]
    have hfl := fmt_len_le x 9 (by omega) hxb
    clear hx hown
    have HH := Lib.hid h
    have HH' := Lib.hid h'
    have HCZ := Lib.hid hcz
    clear h h' hcz
    go_wp2_with (first
      | (go_at_call 140; refine (format_any x (by omega) _ hGc).mono ?_; rintro e w2 ⟨rfl, hb2⟩; have hbd2 := hbd.below hb2; have hz2 := hb2.size)
      | (go_at_call 139; refine (wstr_any _ _ _ _ _ hbd2 (by omega) (by omega) (by omega)).mono ?_; rintro e w3 ⟨rfl, hbd3, hb3⟩; have hz3 := hb3.size))
    rw [HF.out] at hbd3
    have hb3' : Below (w.heap.size + 1) (w.alloc (.cells #[.bool neg, .slice (some ⟨ga, 0, none⟩) n c] 92)) w3 := (hbw.trans (hb2.mono (by omega))).trans hb3
    clear hbd hbd2 hb2 hb3 hbw hcell hGc hbw'
    clear HX HF hxb hfl
    go_loopw [5] (fun i wr => ∃ k : Nat, k + 1 ≤ g.length ∧ i = .int .i64 ((k : Int) - 1) ∧ Bld (w.heap.size + 1) (w.heap.size + 1) (pre neg ++ txt (g.drop k)) wr ∧ Below (w.heap.size + 1) (w.alloc (.cells #[.bool neg, .slice (some ⟨ga, 0, none⟩) n c] 92)) wr) (fun i _ => (intOf i + 1).toNat)
    case atStart => exact ⟨g.length - 1, by omega, by congr 1; omega, hbd3, hb3'⟩
    case round =>
      obtain ⟨k, hk, rfl, hbd, hbw⟩ := hrel
      clear hbd3 hb3' hz hz2 hz3
      have hbw' := below_of_alloc hbw
      have hz := hbw.size
      simp only [World.size_alloc] at hz
      by_cases hk0 : k = 0
      · subst hk0
        have HT : Hid ((pre neg ++ txt (g.drop 0)) = pre neg ++ txt g) := by show _ = _; rw [List.drop_zero]
        rw [HT.out] at hbd
        go_wp2_with (go_at_call 142; refine (bstring_any _ _ _ _ hbd (by omega)).mono ?_; rintro e w4 ⟨rfl, hb4⟩)
        go_ret
        exact ⟨rfl, hbw'.trans (hb4.mono (by omega))⟩
      · obtain ⟨j, rfl⟩ : ∃ j, k = j + 1 := ⟨k - 1, by omega⟩
        have hown := own_below HCZ.out hbw'
        have hGc := HG.out.below hbw'
        obtain ⟨ga', x', hga, hx, _, _, hcell, _⟩ := own_at hown (k := j) (by omega)
        obtain rfl : ga' = ga := by injection hga with h1; injection h1 with h2; exact h2.symm
        have hxb : x' < 1000000000 := HGS.out x' (List.mem_of_getElem? hx)
        have HT : Hid ((pre neg ++ txt (g.drop (j + 1))) ++ (List.replicate (9 - (fmt x').length) 48 ++ fmt x') = pre neg ++ txt (g.drop j)) := by
          show _ = _; rw [txt_step g j x' hx (by omega), List.append_assoc]; rfl
        have hfl := fmt_len_le x' 9 (by omega) hxb
        have htl := txt_len (g.drop (j + 1)) (small_drop HGS.out _)
        rw [List.length_drop] at htl
        have hadd := str_add (List.replicate (9 - (fmt x').length) 48) (fmt x') (by simp; omega) (by omega)
        clear hx hown hga
        go_wp2_with (first
          | (go_at_call 140; refine (format_any x' (by omega) _ hGc).mono ?_; rintro e w2 ⟨rfl, hb2⟩; have hbd2 := hbd.below hb2; have hz2 := hb2.size)
          | (go_at_call 141; refine (repeat_int _ (9 - (fmt x').length) _ (by omega) (by omega)).mono ?_; rintro e w3 ⟨rfl, hb3⟩; have hbd3 := hbd2.below hb3; have hz3 := hb3.size)
          | (go_at_call 139; refine (wstr_any _ _ _ _ _ hbd3 (by simp; omega) (by simp; omega) (by omega)).mono ?_; rintro e w4 ⟨rfl, hbd4, hb4⟩))
        go_roundw
        case rel => exact ⟨j, by omega, by go_num, by rw [← HT.out]; exact hbd4, ((hbw.trans (hb2.mono (by omega))).trans (hb3.mono (by omega))).trans hb4⟩
        case measure => simp [intOf]
theorem text_any (neg : Bool) (A : Option Addr) (n c : Nat) (l : List Nat) (w : World) (base : Nat) (h : w.ownsRow base 151 1 (.slice A n c) n (U l)) (hs : small l) (hG : Glob w) (hn : n ≤ 1000000000) :
    Calls Tryz.prog 76 #[.agg #[.bool neg, .slice A n c]] w fun e w' => e = .returned (.string ⟨(canon (sgn neg (gv l))).toArray⟩) ∧ Below w.heap.size w w' := by
  by_cases h0 : cutZ l = []
  · have hv : gv l = 0 := by rw [← gv_cutZ, h0]; rfl
    have hz : canon (sgn neg (gv l)) = [] := by rw [hv]; cases neg <;> rfl
    rw [hz]
    exact text_zero neg A n c l w base h h0
  · rw [← canon_pre neg l hs h0]
    exact text_pos neg A n c l w base h hs hG hn h0
end Go.Proofs.YtgnppdkeiihlfaaGreatDoor
/- (magnitude).plus. -/
namespace Go.Proofs.YtgnppdkeiihlfaaGreatDoor
open Go.RowKit Num
def PlusAt (l l' ps : List Nat) (k c : Nat) : Prop := ps.length = k ∧ small ps ∧ gv ps + BASE ^ k * c = gv (l.take k) + gv (l'.take k)
theorem PlusAt.step {l l' ps : List Nat} {k c x t : Nat} (h : PlusAt l l' ps k c) (hx : l[k]? = some x) (y : Nat) (hy : l'[k]? = some y ∨ (l'.length ≤ k ∧ y = 0)) (ht : t = x + c + y) : PlusAt l l' (ps ++ [t % BASE]) (k + 1) (t / BASE) := by
  obtain ⟨h1, h2, h3⟩ := h
  refine ⟨by simp [h1], small_snoc h2 (Nat.mod_lt _ (by decide)), ?_⟩
  rw [gv_snoc, h1, gv_take_of hx, Nat.pow_succ, plus_step _ _ _ _ _ _ _ h3 ht]
  rcases hy with hy | ⟨hl, rfl⟩
  · rw [gv_take_of hy]; omega
  · rw [gv_take_all hl]; omega
theorem plus_fin {ps : List Nat} {x y k cy : Nat} (hs : small ps) (hl : ps.length = (grp x).length) (h : gv ps + BASE ^ k * cy = x + y) (hk : (grp x).length = k) (hcb : cy < BASE) : (if cy = 0 then ps else ps ++ [cy]) = grp (x + y) := by
  by_cases hc : cy = 0
  · subst hc
    rw [if_pos rfl]
    have h1 : gv ps = x + y := by simpa using h
    have h2 := cutZ_eq ps hs
    rw [h1] at h2
    have h3 := grp_len_mono x (x + y) (by omega)
    rw [← h2] at h3 ⊢
    have h4 := cutZ_take ps
    rw [List.take_of_length_le (by omega)] at h4
    exact h4.symm
  · rw [if_neg hc]
    rw [← h, ← hk, ← hl, ← gv_snoc, grp_of _ (small_snoc hs hcb) (by simp [norm, hc])]
set_option maxHeartbeats 2000000 in
set_option maxRecDepth 100000 in
theorem plus_any (A A' : Option Addr) (n c n' c' : Nat) (a b : Nat) (w : World) (base base' : Nat) (h : w.ownsRow base 151 1 (.slice A n c) n (U (grp a))) (h' : w.ownsRow base' 151 1 (.slice A' n' c') n' (U (grp b)))
    (hn : n ≤ 1000000000) (hn' : n' ≤ 1000000000) :
    Calls Tryz.prog 244 #[.slice A n c, .slice A' n' c'] w fun e w' => ∃ v, e = .returned v ∧ Mag w' w.heap.size v (a + b) ∧ Below w.heap.size w w' := by
  obtain ⟨i0, hi, hz0, hz1, hz2⟩ := info_parts info_u64
  go_enter Tryz.func244, Tryz.ntmps244
  go_upto_if 12 with fail
  go_cut [0, 1] (fun v0 v1 wx => w = wx ∧ ∃ (A A' : Option Addr) (n c n' c' x y base base' : Nat), v0 = .slice A n c ∧ v1 = .slice A' n' c' ∧ n' ≤ n ∧ n ≤ 1000000000 ∧ Hid (x + y = a + b) ∧ w.ownsRow base 151 1 (.slice A n c) n (U (grp x)) ∧ w.ownsRow base' 151 1 (.slice A' n' c') n' (U (grp y)))
  case first =>
    by_cases hlt : n < n'
    · go_wp2_with fail
      go_meet
      exact ⟨rfl, A', A, n', c', n, c, b, a, base', base, rfl, rfl, by omega, by omega, Nat.add_comm b a, h', h⟩
    · go_wp2_with fail
      go_meet
      exact ⟨rfl, A, A', n, c, n', c', a, b, base, base', rfl, rfl, by omega, by omega, rfl, h, h'⟩
  case rest =>
    clear h h' hn hn'
    obtain ⟨rfl, A, A', n, c, n', c', x, y, base, base', rfl, rfl, hnn, hn, HXY, h, h'⟩ := hcut
    have hmk := fun W => make_u64 90 Tryz.underlying90 n (n + 1) ((n : Int) + 1) (by omega) (by omega) (by omega) W
    have hl := own_len h
    have hl' := own_len h'
    have HL := Lib.hid hl
    have HL' := Lib.hid hl'
    have HZ := Lib.hid (zrow_row w (n + 1))
    have HB : Hid (Below w.heap.size w (w.alloc (zrow (n + 1)))) := (Below.refl _ _).alloc (Nat.le_refl _) _
    have HO := Lib.hid (own_below h HB.out)
    have HH := Lib.hid h
    have HH' := Lib.hid h'
    clear hl hl' h h'
    go_wp2_with (with_reducible refine wp_copy_row rfl (.tmp 21) (.tmp 22) 90 rfl Tryz.underlying90 A w.heap.size n c (n + 1) base (grp x) rfl rfl HO.out HZ.out (Nat.le_succ _) w.heap.size w HB.out (Nat.le_refl _) ?_; intro w2 hrow0 hb2)
    clear hmk
    go_loopw [6, 26] (fun cv i wr => ∃ (k cy : Nat) (ps : List Nat), k ≤ n ∧ i = .int .i64 k ∧ cv = .int .u64 (cy : Int) ∧ cy ≤ 1 ∧ Hid (PlusAt (grp x) (grp y) ps k cy) ∧ Row wr w.heap.size (ps ++ ((grp x).drop k ++ [0])) ∧ Below w.heap.size w wr) (fun _ i _ => n - (intOf i).toNat)
    case atStart =>
      refine ⟨0, 0, [], by omega, rfl, rfl, by omega, ⟨rfl, fun x hx => by simp at hx, by simp [gv]⟩, ?_, hb2⟩
      rw [show n + 1 - n = 1 by omega] at hrow0
      exact hrow0
    case round =>
      clear hrow0 hb2
      obtain ⟨k, cy, ps, hk, rfl, rfl, hcy, HP, hrow, hbw⟩ := hrel
      by_cases hkn : k < n
      · obtain ⟨xk, hxk⟩ : ∃ xk, (grp x)[k]? = some xk := ⟨_, List.getElem?_eq_getElem (by rw [HL.out]; exact hkn)⟩
        have hxb : xk < 1000000000 := grp_small x xk (List.mem_of_getElem? hxk)
        have hcell := hrow.cell (row_at (t := [0]) HP.out.1 hxk)
        have hfr := hrow.frozen k
        have HX := Lib.hid hxk
        have HR := Lib.hid hrow
        clear hxk hrow
        by_cases hkn' : k < n'
        · obtain ⟨g', yk, rfl, hyk, hgl, hcell'⟩ := own_at_below HH'.out hbw hkn'
          have HY := Lib.hid hyk
          have hyb : yk < 1000000000 := grp_small y yk (List.mem_of_getElem? hyk)
          have hne : ¬ g' = w.heap.size := by omega
          have hne' : ¬ w.heap.size = g' := by omega
          clear hyk
          go_wp2
          go_region
          all_goals go_wp2
          all_goals go_roundw
          case rel =>
            refine ⟨k + 1, (xk + cy + yk) / 1000000000, ps ++ [(xk + cy + yk) % 1000000000], by omega, by go_num, congrArg (Value.int .u64) (by omega), by omega, HP.out.step HX.out yk (.inl HY.out) rfl, ?_, (((hbw.setCell (p := ⟨w.heap.size, k, none⟩) (Nat.le_refl _) _).setCell (p := ⟨w.heap.size, k, none⟩) (Nat.le_refl _) _).setCell (p := ⟨w.heap.size, k, none⟩) (Nat.le_refl _) _).drew⟩
            have h1 := ((HR.out.setI k (xk + cy) (z := (xk : Int) + cy) (by omega)).setI k (xk + cy + yk) (z := (xk : Int) + cy + yk) (by omega)).setI k ((xk + cy + yk) % 1000000000) (z := ((xk : Int) + cy + yk) % 1000000000) (by omega)
            rw [List.set_set, List.set_set, row_set HP.out.1 (by rw [HL.out]; omega)] at h1
            exact h1.drew
          case measure => simp [intOf]; omega
        · go_wp2
          go_roundw
          case rel =>
            refine ⟨k + 1, (xk + cy) / 1000000000, ps ++ [(xk + cy) % 1000000000], by omega, by go_num, congrArg (Value.int .u64) (by omega), by omega, HP.out.step HX.out 0 (.inr ⟨by rw [HL'.out]; omega, rfl⟩) rfl, ?_, (hbw.setCell (p := ⟨w.heap.size, k, none⟩) (Nat.le_refl _) _).setCell (p := ⟨w.heap.size, k, none⟩) (Nat.le_refl _) _⟩
            have h1 := (HR.out.setI k (xk + cy) (z := (xk : Int) + cy) (by omega)).setI k ((xk + cy) % 1000000000) (z := ((xk : Int) + cy) % 1000000000) (by omega)
            rw [List.set_set, row_set HP.out.1 (by rw [HL.out]; omega)] at h1
            exact h1
          case measure => simp [intOf]; omega
      · obtain rfl : k = n := by omega
        have hd : (grp x).drop k = [] := List.drop_of_length_le (by rw [HL.out]; omega)
        rw [hd, List.nil_append] at hrow
        obtain ⟨hp1, hp2, hp3⟩ := HP.out
        have hown := hrow.own (base := w.heap.size) (n := k) (Nat.le_refl _) (by simp; omega) (by simp; unfold maxLen; omega)
        have e1 : (ps ++ [0]).length = k + 1 := by simp; omega
        have e2 : (ps ++ [0]).take k = ps := by rw [List.take_append_of_le_length (by omega), List.take_of_length_le (by omega)]
        rw [e1, e2] at hown
        have hgv : gv ps + BASE ^ k * cy = x + y := by
          rw [hp3, List.take_of_length_le (by rw [HL.out]; omega), List.take_of_length_le (by rw [HL'.out]; omega), gv_grp, gv_grp]
        have hfin := plus_fin (x := x) (y := y) hp2 (by rw [hp1, HL.out]) hgv (by rw [HL.out]) (by unfold BASE; omega)
        rw [HXY.out] at hfin
        have HF := Lib.hid hfin
        clear hfin hgv e1 e2 hp1 hp2 hp3 hd
        by_cases hc0 : cy = 0
        · subst hc0
          clear hi hz0 hz1 hz2 i0
          go_wp2
          go_ret
          exact ⟨_, rfl, mag_of hown HF.out, hbw⟩
        · have hz := hbw.size
          go_wp2_with (at_builtin; refine wpList_append_own _ rfl _ _ 90 rfl w.heap.size 151 i0 (.int .u64 0) 1 8 Tryz.underlying90 hi hz0 hz1 hz2 rfl (by decide) _ _ _ rfl (hown.alloc _) ⟨wr.heap.size, 0, none⟩ 1 1 [.int .u64 (cy : Int)] rfl rfl ?c1 ?c2 ?c3 ?c4 ?c5 ?_)
          case c1 => exact cell_one_new _ _ _
          case c2 => intro u hu; simp at hu; subst hu; rfl
          case c3 => unfold maxLen; omega
          case c4 => omega
          case c5 => simp; omega
          intro v' w3 hown' hgrow _
          have hb3 : Below w.heap.size w w3 := (hbw.alloc (by omega) _).grown hgrow (by simp; omega) (own_block_ge hown)
          have hmag : Mag w3 w.heap.size v' (a + b) := by
            refine mag_of (l := ps ++ [cy]) (by simpa using hown') ?_
            have := HF.out
            rwa [if_neg hc0] at this
          clear hown hown' hgrow
          go_wp2
          go_ret
          exact ⟨_, rfl, hmag, hb3⟩
end Go.Proofs.YtgnppdkeiihlfaaGreatDoor
/- slices.Clone at magnitudes; (magnitude).minus. -/
namespace Go.Proofs.YtgnppdkeiihlfaaGreatDoor
open Go.RowKit Num
set_option maxHeartbeats 1000000 in
set_option maxRecDepth 100000 in
theorem clone_any (A : Option Addr) (n c : Nat) (l : List Nat) (w : World) (base : Nat) (h : w.ownsRow base 151 1 (.slice A n c) n (U l)) (hn : n ≤ 1000000000) :
    Calls Tryz.prog 273 #[.slice A n c] w fun e w' => ∃ v, e = .returned v ∧ w'.ownsRow w.heap.size 151 1 v n (U l) ∧ Below w.heap.size w w' := by
  obtain ⟨i0, hi, hz0, hz1, hz2⟩ := info_parts info_u64
  have hl := own_len h
  have q : ∀ (w : World) (a : Option Addr) (n c n' c' : Nat), (binOp .eql 90 (.slice a n c) (.slice none n' c')).run Tryz.prog w = .ok (.bool a.isNone) w := fun w a n c n' c' => Lib.run_eql_slice_nil w _ _ a n c n' c' Tryz.underlying90
  rcases h.2 with ⟨hv, h0⟩ | ⟨g, cap, cur, hv, hbg, hh, _⟩
  · injection hv with h1 h2 h3
    subst h1 h2 h3
    have : l = [] := List.eq_nil_of_length_eq_zero (by omega)
    subst this
    clear hi hz0 hz1 hz2 i0 hl h0 h
    go_enter Tryz.func273, Tryz.ntmps273
    go_wp2
    go_ret
    exact ⟨_, rfl, World.ownsRow_nil _ _ _ _, Below.refl _ _⟩
  · injection hv with hA _ hc'
    subst hA hc'
    have hgl := (Array.getElem?_eq_some_iff.1 hh).1
    have hcell : ∀ j u, (U l)[j]? = some u → (w.alloc (.cells #[] 151)).cell? ((⟨g, 0, none⟩ : Addr).add j) = some u := by
      intro j u hj
      rw [Lib.add_plain, Nat.zero_add, World.cell?_alloc_lt _ _ _ hgl, h.cellAt j (by have := (List.getElem?_eq_some_iff.1 hj).1; simp at this; omega)]
      exact hj
    have HC := Lib.hid hcell
    have HN : Hid ((U l).length = n * 1) := by show _ = _; simp [hl]
    clear hcell h hh hl
    go_enter Tryz.func273, Tryz.ntmps273
    go_wp2_with (at_builtin; refine wpList_append_own _ rfl _ _ 90 rfl w.heap.size 151 i0 (.int .u64 0) 1 8 Tryz.underlying90 hi hz0 hz1 hz2 rfl (by decide) _ _ _ rfl (World.ownsRow_made w #[] 0 (Nat.le_refl _) (Nat.zero_le _) (by simp)) ⟨g, 0, none⟩ n c (U l) rfl HN.out HC.out (U_one l) ?c3 ?c4 ?c5 ?_)
    case c3 => unfold maxLen; omega
    case c4 => omega
    intro v' w1 hown hgrow _
    have hb : Below w.heap.size w w1 := ((Below.refl _ w).alloc (Nat.le_refl _) _).grown hgrow (by simp) (by intro k hk; simp [Value.ownBlock] at hk; omega)
    have hown2 : w1.ownsRow w.heap.size 151 1 v' n (U l) := by simpa using hown
    clear hown hgrow
    go_wp2
    go_ret
    exact ⟨v', rfl, hown2, hb⟩
theorem own_set {w : World} {base n c g : Nat} {l : List Nat} (h : w.ownsRow base 151 1 (.slice (some ⟨g, 0, none⟩) n c) n (U l)) (k y : Nat) {z : Int} (hz : z = y) :
    (w.setCell ⟨g, k, none⟩ (.int .u64 z)).ownsRow base 151 1 (.slice (some ⟨g, 0, none⟩) n c) n (U (l.set k y)) := by
  subst hz
  have := h.stored k (.int .u64 (y : Int))
  simpa [U, List.map_set] using this.1
def MinusAt (l l' ps : List Nat) (k b : Nat) : Prop := ps.length = k ∧ small ps ∧ gv ps + gv (l'.take k) = gv (l.take k) + BASE ^ k * b
theorem MinusAt.step {l l' ps : List Nat} {k b x r b' : Nat} (h : MinusAt l l' ps k b) (hx : l[k]? = some x) (y : Nat) (hy : l'[k]? = some y ∨ (l'.length ≤ k ∧ y = 0)) (hr : r + (b + y) = x + BASE * b') (hrb : r < BASE) : MinusAt l l' (ps ++ [r]) (k + 1) b' := by
  obtain ⟨h1, h2, h3⟩ := h
  refine ⟨by simp [h1], small_snoc h2 hrb, ?_⟩
  have e : BASE ^ k * r + (BASE ^ k * b + BASE ^ k * y) = BASE ^ k * x + BASE ^ k * BASE * b' := by
    rw [← Nat.mul_add, ← Nat.mul_add, hr, Nat.mul_add, Nat.mul_assoc]
  rw [gv_snoc, h1, gv_take_of hx, Nat.pow_succ]
  rcases hy with hy | ⟨hl, rfl⟩
  · rw [gv_take_of hy]; omega
  · rw [gv_take_all hl]; omega
theorem MinusAt.fin {l l' ps : List Nat} {k b x y : Nat} (h : MinusAt l l' ps k b) (hl : l = grp x) (hl' : l' = grp y) (hk : l.length = k) (hk' : l'.length ≤ k) (hxy : y ≤ x) : cutZ ps = grp (x - y) := by
  obtain ⟨h1, h2, h3⟩ := h
  rw [List.take_of_length_le (by omega), List.take_of_length_le (by omega), hl, hl', gv_grp, gv_grp] at h3
  have h4 := gv_lt ps h2
  rw [h1] at h4
  have hb : b = 0 := by
    rcases Nat.eq_zero_or_pos b with h | h
    · exact h
    · have : BASE ^ k * 1 ≤ BASE ^ k * b := Nat.mul_le_mul_left _ h
      omega
  subst hb
  rw [cutZ_eq ps h2]
  congr 1
  omega
set_option maxHeartbeats 2000000 in
set_option maxRecDepth 100000 in
theorem minus_any (A A' : Option Addr) (n c n' c' : Nat) (x y : Nat) (w : World) (base base' : Nat) (h : w.ownsRow base 151 1 (.slice A n c) n (U (grp x))) (h' : w.ownsRow base' 151 1 (.slice A' n' c') n' (U (grp y)))
    (hn : n ≤ 1000000000) (hxy : y ≤ x) :
    Calls Tryz.prog 245 #[.slice A n c, .slice A' n' c'] w fun e w' => ∃ v, e = .returned v ∧ Mag w' w.heap.size v (x - y) ∧ Below w.heap.size w w' := by
  have hl := own_len h
  have hl' := own_len h'
  have hnn : n' ≤ n := by have := grp_len_mono y x hxy; omega
  obtain ⟨_, hc2'⟩ := own_cap h'
  unfold maxLen at hc2'
  have HL := Lib.hid hl
  have HL' := Lib.hid hl'
  have HH := Lib.hid h
  have HH' := Lib.hid h'
  clear hl hl' h h'
  go_enter Tryz.func245, Tryz.ntmps245
  go_wp2_with (go_at_call 273; refine (clone_any A n c (grp x) _ base HH.out hn).mono ?_; rintro e w2 ⟨v, rfl, hown, hb2⟩; obtain ⟨B, cb, rfl⟩ := own_form hown)
  obtain ⟨hcb1, hcb2⟩ := own_cap hown
  unfold maxLen at hcb2
  go_loopw [6, 13] (fun cv i wr => ∃ (k br : Nat) (ps : List Nat), k ≤ n ∧ i = .int .i64 k ∧ cv = .int .u64 (br : Int) ∧ br ≤ 1 ∧ Hid (MinusAt (grp x) (grp y) ps k br) ∧ wr.ownsRow w.heap.size 151 1 (.slice B n cb) n (U (ps ++ ((grp x).drop k ++ []))) ∧ Below w.heap.size w wr) (fun _ i _ => n - (intOf i).toNat)
  case atStart => exact ⟨0, 0, [], by omega, rfl, rfl, by omega, ⟨rfl, fun x hx => by simp at hx, by simp [gv]⟩, by simpa using hown, hb2⟩
  case round =>
    clear hown hb2
    obtain ⟨k, br, ps, hk, rfl, rfl, hbr, HP, hown, hbw⟩ := hrel
    by_cases hkn : k < n
    · obtain ⟨g, xk, rfl, hxk0, hbg, hgl, hcell, hfr⟩ := own_at hown (k := k) hkn
      have hxk : (grp x)[k]? = some xk := by
        obtain ⟨xk', hxk'⟩ : ∃ xk, (grp x)[k]? = some xk := ⟨_, List.getElem?_eq_getElem (by rw [HL.out]; exact hkn)⟩
        have := row_at (t := []) HP.out.1 hxk'
        rw [this] at hxk0
        rw [hxk', hxk0]
      have hxb : xk < 1000000000 := grp_small x xk (List.mem_of_getElem? hxk)
      have HX := Lib.hid hxk
      have HO := Lib.hid hown
      clear hxk hown hxk0
      by_cases hkn' : k < n'
      · obtain ⟨g', yk, rfl, hyk, hgl', hcell'⟩ := own_at_below HH'.out hbw hkn'
        have HY := Lib.hid hyk
        have hyb : yk < 1000000000 := grp_small y yk (List.mem_of_getElem? hyk)
        have hne : ¬ g' = g := by omega
        have hne' : ¬ g = g' := by omega
        clear hyk
        by_cases hlt : xk < br + yk
        · go_wp2
          go_roundw
          case rel =>
            refine ⟨k + 1, 1, ps ++ [xk + 1000000000 - (br + yk)], by omega, by go_num, rfl, by omega, HP.out.step HX.out yk (.inl HY.out) (by unfold BASE; omega) (by unfold BASE; omega), ?_, (hbw.setCell (p := ⟨g, k, none⟩) hbg _).setCell (p := ⟨g, k, none⟩) hbg _⟩
            have h1 := own_set (own_set HO.out k (xk + 1000000000) (z := (xk : Int) + 1000000000) (by omega)) k (xk + 1000000000 - (br + yk)) (z := (xk : Int) + 1000000000 - ((br : Int) + yk)) (by omega)
            rw [List.set_set, row_set HP.out.1 (by rw [HL.out]; omega)] at h1
            exact h1
          case measure => simp [intOf]; omega
        · go_wp2
          go_roundw
          case rel =>
            refine ⟨k + 1, 0, ps ++ [xk - (br + yk)], by omega, by go_num, rfl, by omega, HP.out.step HX.out yk (.inl HY.out) (by unfold BASE; omega) (by unfold BASE; omega), ?_, hbw.setCell (p := ⟨g, k, none⟩) hbg _⟩
            have h1 := own_set HO.out k (xk - (br + yk)) (z := (xk : Int) - ((br : Int) + yk)) (by omega)
            rw [row_set HP.out.1 (by rw [HL.out]; omega)] at h1
            exact h1
          case measure => simp [intOf]; omega
      · by_cases hlt : xk < br
        · go_wp2
          go_roundw
          case rel =>
            refine ⟨k + 1, 1, ps ++ [xk + 1000000000 - (br)], by omega, by go_num, rfl, by omega, HP.out.step HX.out 0 (.inr ⟨by rw [HL'.out]; omega, rfl⟩) (by unfold BASE; omega) (by unfold BASE; omega), ?_, (hbw.setCell (p := ⟨g, k, none⟩) hbg _).setCell (p := ⟨g, k, none⟩) hbg _⟩
            have h1 := own_set (own_set HO.out k (xk + 1000000000) (z := (xk : Int) + 1000000000) (by omega)) k (xk + 1000000000 - (br)) (z := (xk : Int) + 1000000000 - ((br : Int))) (by omega)
            rw [List.set_set, row_set HP.out.1 (by rw [HL.out]; omega)] at h1
            exact h1
          case measure => simp [intOf]; omega
        · go_wp2
          go_roundw
          case rel =>
            refine ⟨k + 1, 0, ps ++ [xk - (br)], by omega, by go_num, rfl, by omega, HP.out.step HX.out 0 (.inr ⟨by rw [HL'.out]; omega, rfl⟩) (by unfold BASE; omega) (by unfold BASE; omega), ?_, hbw.setCell (p := ⟨g, k, none⟩) hbg _⟩
            have h1 := own_set HO.out k (xk - (br)) (z := (xk : Int) - ((br : Int))) (by omega)
            rw [row_set HP.out.1 (by rw [HL.out]; omega)] at h1
            exact h1
          case measure => simp [intOf]; omega
    · obtain rfl : k = n := by omega
      have hd : (grp x).drop k = [] := List.drop_of_length_le (by rw [HL.out]; omega)
      have e : ps ++ ((grp x).drop k ++ []) = ps := by rw [hd]; simp
      rw [e] at hown
      clear hd e
      go_wp2_with (go_at_call 137; refine (cut_any B k cb _ _ w.heap.size hown).mono ?_; rintro e w3 ⟨rfl, rfl⟩)
      go_ret
      have hfin := HP.out.fin rfl rfl HL.out (by rw [HL'.out]; omega) hxy
      exact ⟨_, rfl, mag_of (own_cut hown) hfin, hbw⟩
end Go.Proofs.YtgnppdkeiihlfaaGreatDoor
/- (magnitude).single: division by one group. -/
namespace Go.Proofs.YtgnppdkeiihlfaaGreatDoor
open Go.RowKit Num
theorem zrow_set (k : Nat) (qs : List Nat) (y : Nat) : (List.replicate (k + 1) 0 ++ qs).set k y = List.replicate k 0 ++ (y :: qs) := by
  rw [List.replicate_succ', List.append_assoc, List.set_append_right _ _ (by simp)]
  simp
theorem zrow_at (k : Nat) (qs : List Nat) : (List.replicate (k + 1) 0 ++ qs)[k]? = some 0 := by
  rw [List.getElem?_append_left (by simp)]
  simp
def DivAt (l qs : List Nat) (d k r : Nat) : Prop := qs.length + k = l.length ∧ small qs ∧ r < d ∧ gv qs * d + r = gv (l.drop k)
theorem DivAt.step {l qs : List Nat} {d k r x : Nat} (h : DivAt l qs d (k + 1) r) (hx : l[k]? = some x) (hxb : x < BASE) : DivAt l ((r * BASE + x) / d :: qs) d k ((r * BASE + x) % d) ∧ (r * BASE + x) / d < BASE := by
  obtain ⟨h1, h2, h3, h4⟩ := h
  obtain ⟨hk, he⟩ := List.getElem?_eq_some_iff.1 hx
  have hq : (r * BASE + x) / d < BASE := by
    apply Nat.div_lt_of_lt_mul
    have : (r + 1) * BASE ≤ d * BASE := Nat.mul_le_mul_right _ h3
    rw [Nat.add_mul] at this
    omega
  refine ⟨⟨by simp; omega, ?_, Nat.mod_lt _ (by omega), ?_⟩, hq⟩
  · intro y hy
    rcases List.mem_cons.1 hy with rfl | hy
    · exact hq
    · exact h2 y hy
  · rw [gv_drop l k hk, he, gv, ← h4]
    have := Nat.div_add_mod (r * BASE + x) d
    rw [Nat.add_mul, Nat.mul_assoc, Nat.mul_add]
    have e1 : (r * BASE + x) / d * d = d * ((r * BASE + x) / d) := Nat.mul_comm _ _
    have e2 : BASE * r = r * BASE := Nat.mul_comm _ _
    omega
set_option maxHeartbeats 2000000 in
set_option maxRecDepth 100000 in
theorem single_any (A : Option Addr) (n c : Nat) (m d : Nat) (w : World) (base : Nat) (h : w.ownsRow base 151 1 (.slice A n c) n (U (grp m))) (hn : n ≤ 1000000000) (hd0 : 1 ≤ d) (hd1 : d ≤ 1000000000) :
    Calls Tryz.prog 272 #[.slice A n c, .int .u64 (d : Int)] w fun e w' => ∃ v, e = .returned (.tuple #[v, .int .u64 ((m % d : Nat) : Int)]) ∧ Mag w' w.heap.size v (m / d) ∧ Below w.heap.size w w' := by
  have hl := own_len h
  have HL := Lib.hid hl
  have HH := Lib.hid h
  obtain ⟨hc1, hc2⟩ := own_cap h
  unfold maxLen at hc2
  clear hl h
  have hmk := fun W => make_u64 90 Tryz.underlying90 n n (n : Int) rfl (Nat.le_refl _) (by omega) W
  go_enter Tryz.func272, Tryz.ntmps272
  go_wp2
  clear hmk
  go_loopw [7, 8] (fun rv i wr => ∃ (k r : Nat) (qs : List Nat), k ≤ n ∧ i = .int .i64 ((k : Int) - 1) ∧ rv = .int .u64 (r : Int) ∧ r < d ∧ Hid (DivAt (grp m) qs d k r) ∧ Row wr w.heap.size (List.replicate k 0 ++ qs) ∧ Below w.heap.size w wr) (fun _ i _ => (intOf i + 1).toNat)
  case atStart =>
    refine ⟨n, 0, [], Nat.le_refl _, rfl, rfl, by omega, ⟨by simp [HL.out], fun x hx => by simp at hx, by omega, ?_⟩, by simpa using zrow_row w n, (Below.refl _ _).alloc (Nat.le_refl _) _⟩
    rw [List.drop_of_length_le (by rw [HL.out]; omega)]; simp [gv]
  case round =>
    obtain ⟨k, r, qs, hk, rfl, rfl, hr, HD, hrow, hbw⟩ := hrel
    by_cases hk0 : k = 0
    · subst hk0
      rw [List.replicate_zero, List.nil_append] at hrow
      obtain ⟨h1, h2, h3, h4⟩ := HD.out
      rw [List.drop_zero, gv_grp] at h4
      have hown := hrow.own (base := w.heap.size) (n := n) (Nat.le_refl _) (by have := HL.out; omega) (by have := HL.out; unfold maxLen; omega)
      have e1 : qs.length = n := by have := HL.out; omega
      rw [List.take_of_length_le (by omega), e1] at hown
      have hq : gv qs = m / d := by rw [← h4, Nat.mul_comm, Nat.mul_add_div (by omega), Nat.div_eq_of_lt h3, Nat.add_zero]
      have hr' : r = m % d := by rw [← h4, Nat.mul_comm, Nat.mul_add_mod, Nat.mod_eq_of_lt h3]
      have HQ : Hid (cutZ qs = grp (m / d)) := by show _ = _; rw [cutZ_eq qs h2, hq]
      have HR := Lib.hid hr'
      clear h1 h2 h4 hq hr' e1 hrow
      go_wp2_with (go_at_call 137; refine (cut_any _ n n qs _ w.heap.size hown).mono ?_; rintro e w3 ⟨rfl, rfl⟩)
      go_ret2
      refine ⟨_, ret2 rfl (by rw [← HR.out]; rfl), mag_of (own_cut hown) HQ.out, hbw⟩
    · obtain ⟨j, rfl⟩ : ∃ j, k = j + 1 := ⟨k - 1, by omega⟩
      obtain ⟨g, xk, rfl, hxk, hgl, hcell⟩ := own_at_below HH.out hbw (k := j) (by omega)
      have hxb : xk < 1000000000 := grp_small m xk (List.mem_of_getElem? hxk)
      obtain ⟨hstep, hq⟩ := HD.out.step hxk hxb
      have hcell2 := hrow.cell (zrow_at j qs)
      have hfr2 := hrow.frozen j
      have hqc : ((r : Int) * 1000000000 + xk) / d = (((r * 1000000000 + xk) / d : Nat) : Int) := by rw [Int.natCast_ediv]; rfl
      have hrc : ((r : Int) * 1000000000 + xk) % d = (((r * 1000000000 + xk) % d : Nat) : Int) := by rw [Int.natCast_emod]; rfl
      have HS := Lib.hid hstep
      have HR := Lib.hid hrow
      have HQC := Lib.hid hqc
      have HRC := Lib.hid hrc
      have hne : ¬ g = w.heap.size := by omega
      clear hstep hrow hxk hq hqc hrc
      go_wp2
      go_roundw
      case rel =>
        refine ⟨j, (r * 1000000000 + xk) % d, (r * 1000000000 + xk) / d :: qs, by omega, rfl, congrArg (Value.int .u64) HRC.out, Nat.mod_lt _ (by omega), HS.out, ?_, hbw.setCell (p := ⟨w.heap.size, j, none⟩) (Nat.le_refl _) _⟩
        have h1 := HR.out.setI j ((r * 1000000000 + xk) / d) HQC.out
        rw [zrow_set] at h1
        exact h1
      case measure => simp [intOf]
end Go.Proofs.YtgnppdkeiihlfaaGreatDoor
/- (magnitude).times. -/
namespace Go.Proofs.YtgnppdkeiihlfaaGreatDoor
open Go.RowKit Num
def TimesAt (l l' rs : List Nat) (i : Nat) : Prop := rs.length = i + l'.length ∧ small rs ∧ gv rs = gv (l.take i) * gv l'
def TimesIn (l l' rs : List Nat) (i k x c : Nat) : Prop :=
  rs.length = i + l'.length ∧ small rs ∧ c < BASE ∧ gv rs + BASE ^ (i + k) * c = gv (l.take i) * gv l' + BASE ^ i * (x * gv (l'.take k))
theorem TimesAt.enter {l l' rs : List Nat} {i : Nat} (h : TimesAt l l' rs i) (x : Nat) : TimesIn l l' rs i 0 x 0 := by
  obtain ⟨h1, h2, h3⟩ := h
  exact ⟨h1, h2, by decide, by simp [h3, gv]⟩
theorem gv_set {l : List Nat} {k x : Nat} (h : l[k]? = some x) (y : Nat) : gv (l.set k y) + BASE ^ k * x = gv l + BASE ^ k * y := by
  obtain ⟨hk, rfl⟩ := List.getElem?_eq_some_iff.1 h
  induction l generalizing k with
  | nil => simp at hk
  | cons a l ih =>
    cases k with
    | zero => simp [gv]; omega
    | succ k =>
      simp only [List.set_cons_succ, gv, List.getElem_cons_succ, Nat.pow_succ]
      have hk' : k < l.length := by simpa using hk
      have := ih (k := k) hk' (List.getElem?_eq_getElem hk')
      have e1 : BASE ^ k * BASE * l[k] = BASE * (BASE ^ k * l[k]) := by rw [Nat.mul_comm (BASE ^ k) BASE, Nat.mul_assoc]
      have e2 : BASE ^ k * BASE * y = BASE * (BASE ^ k * y) := by rw [Nat.mul_comm (BASE ^ k) BASE, Nat.mul_assoc]
      rw [e1, e2]
      have h3 : BASE * (gv (l.set k y) + BASE ^ k * l[k]) = BASE * (gv l + BASE ^ k * y) := by rw [this]
      rw [Nat.mul_add, Nat.mul_add] at h3
      omega
theorem small_set {l : List Nat} {k y : Nat} (h : small l) (hy : y < BASE) : small (l.set k y) := by
  intro z hz
  rcases List.mem_or_eq_of_mem_set hz with h1 | h1
  · exact h z h1
  · omega
theorem mul_lt_base2 {x y : Nat} (hx : x < 1000000000) (hy : y < 1000000000) : x * y ≤ 999999999 * 999999999 := Nat.mul_le_mul (by omega) (by omega)
theorem TimesIn.step {l l' rs : List Nat} {i k x c o y : Nat} (h : TimesIn l l' rs i k x c) (ho : rs[i + k]? = some o) (hy : l'[k]? = some y) (hxb : x < BASE) (hyb : y < BASE) :
    TimesIn l l' (rs.set (i + k) ((c + (o + x * y)) % BASE)) i (k + 1) x ((c + (o + x * y)) / BASE) := by
  obtain ⟨h1, h2, h3, h4⟩ := h
  have hob : o < BASE := h2 o (List.mem_of_getElem? ho)
  have hxy := mul_lt_base2 hxb hyb
  refine ⟨by simp [h1], small_set h2 (Nat.mod_lt _ (by decide)), ?_, ?_⟩
  · apply Nat.div_lt_of_lt_mul; unfold BASE at *; omega
  · have hs := gv_set ho ((c + (o + x * y)) % BASE)
    rw [gv_take_of hy]
    have e1 : BASE ^ (i + (k + 1)) * ((c + (o + x * y)) / BASE) + BASE ^ (i + k) * ((c + (o + x * y)) % BASE) = BASE ^ (i + k) * (c + (o + x * y)) := by
      rw [show i + (k + 1) = (i + k) + 1 by omega, Nat.pow_succ, Nat.mul_assoc, ← Nat.mul_add, Nat.div_add_mod]
    have e2 : BASE ^ i * (x * (gv (l'.take k) + BASE ^ k * y)) = BASE ^ i * (x * gv (l'.take k)) + BASE ^ (i + k) * (x * y) := by
      rw [Nat.mul_add x, Nat.mul_add, Nat.pow_add, Nat.mul_assoc]
      congr 1
      rw [← Nat.mul_assoc x, Nat.mul_comm x, Nat.mul_assoc]
    have e3 : BASE ^ (i + k) * (c + (o + x * y)) = BASE ^ (i + k) * c + (BASE ^ (i + k) * o + BASE ^ (i + k) * (x * y)) := by rw [Nat.mul_add, Nat.mul_add]
    omega
theorem TimesIn.leave {l l' rs : List Nat} {i x c : Nat} (h : TimesIn l l' rs i l'.length x c) (hx : l[i]? = some x) : TimesAt l l' (rs ++ [c]) (i + 1) := by
  obtain ⟨h1, h2, h3, h4⟩ := h
  refine ⟨by simp [h1]; omega, small_snoc h2 h3, ?_⟩
  rw [gv_snoc, h1, h4, List.take_length, gv_take_of hx, Nat.add_mul, Nat.mul_assoc]
theorem zpad_at (rs : List Nat) (z k : Nat) (hk : rs.length = k) (hz : 0 < z) : (rs ++ List.replicate z 0)[k]? = some 0 := by
  rw [List.getElem?_append_right (by omega), hk, Nat.sub_self]
  obtain ⟨j, rfl⟩ : ∃ j, z = j + 1 := ⟨z - 1, by omega⟩
  simp [List.replicate_succ]
theorem gv_zeros (n : Nat) : gv (List.replicate n 0) = 0 := by
  induction n with
  | zero => rfl
  | succ n ih => rw [List.replicate_succ, gv, ih]; rfl
theorem zpad_set (rs : List Nat) (z k c : Nat) (hk : rs.length = k) : (rs ++ List.replicate (z + 1) 0).set k c = (rs ++ [c]) ++ List.replicate z 0 := by
  rw [List.set_append_right _ _ (by omega), hk, Nat.sub_self, List.replicate_succ]; simp
theorem zpad_skip (rs : List Nat) (z : Nat) : rs ++ List.replicate (z + 1) 0 = (rs ++ [0]) ++ List.replicate z 0 := by
  rw [List.replicate_succ]; simp
set_option maxHeartbeats 4000000 in
set_option maxRecDepth 100000 in
theorem times_any (A A' : Option Addr) (n c n' c' : Nat) (x y : Nat) (w : World) (base base' : Nat) (h : w.ownsRow base 151 1 (.slice A n c) n (U (grp x))) (h' : w.ownsRow base' 151 1 (.slice A' n' c') n' (U (grp y)))
    (hn : n ≤ 1000000000) (hn' : n' ≤ 1000000000) :
    Calls Tryz.prog 215 #[.slice A n c, .slice A' n' c'] w fun e w' => ∃ v, e = .returned v ∧ Mag w' w.heap.size v (x * y) ∧ Below w.heap.size w w' := by
  have HL := Lib.hid (own_len h)
  have HL' := Lib.hid (own_len h')
  have HH := Lib.hid h
  have HH' := Lib.hid h'
  obtain ⟨_, hc2⟩ := own_cap h
  obtain ⟨_, hc2'⟩ := own_cap h'
  unfold maxLen at hc2 hc2'
  clear h h'
  have hmk : ∀ W : World, (Instr.makeSlice 90 (.int .i64 ((n : Int) + n')) (.int .i64 ((n : Int) + n'))).run Tryz.prog W = .ok (.slice (some ⟨W.heap.size, 0, none⟩) (n + n') (n + n')) (W.alloc (zrow (n + n'))) := fun W => by
    have := make_u64 90 Tryz.underlying90 (n + n') (n + n') ((n + n' : Nat) : Int) rfl (Nat.le_refl _) (by omega) W
    rw [Int.natCast_add] at this
    exact this
  go_enter Tryz.func215, Tryz.ntmps215
  go_wp2
  clear hmk
  go_loopw [19] (fun iv wr => ∃ (i : Nat) (rs : List Nat), i ≤ n ∧ iv = .int .i64 (i : Int) ∧ Hid (TimesAt (grp x) (grp y) rs i) ∧ Row wr w.heap.size (rs ++ List.replicate (n - i) 0) ∧ Below w.heap.size w wr) (fun iv _ => n - (intOf iv).toNat)
  case atStart =>
    refine ⟨0, List.replicate n' 0, by omega, rfl, ⟨by simp [HL'.out], fun x hx => ?_, ?_⟩, ?_, (Below.refl _ _).alloc (Nat.le_refl _) _⟩
    · have := List.eq_of_mem_replicate hx; subst this; decide
    · rw [gv_zeros]; simp [gv]
    · rw [Nat.sub_zero, List.replicate_append_replicate, Nat.add_comm n' n]
      exact zrow_row w (n + n')
  case round =>
    obtain ⟨i, rs, hi, rfl, HT, hrow, hbw⟩ := hrel
    by_cases hin : i < n
    · obtain ⟨g, xi, rfl, hxi, hgl, hcell⟩ := own_at_below HH.out hbw (k := i) hin
      have hxb : xi < 1000000000 := grp_small x xi (List.mem_of_getElem? hxi)
      have HX := Lib.hid hxi
      have HR := Lib.hid hrow
      clear hxi hrow
      go_wp2
      obtain ⟨wo, hwo⟩ : ∃ wo : World, wo = wr := ⟨_, rfl⟩
      have hbo := hbw
      rw [← hwo] at hbo
      clear hwo
      go_loopw [8, 26] (fun cv kv wr => ∃ (k c : Nat) (rs : List Nat), k ≤ n' ∧ kv = .int .i64 (k : Int) ∧ cv = .int .u64 (c : Int) ∧ c < 1000000000 ∧ Hid (TimesIn (grp x) (grp y) rs i k xi c) ∧ Row wr w.heap.size (rs ++ List.replicate (n - i) 0) ∧ Below w.heap.size w wr) (fun _ kv _ => n' - (intOf kv).toNat)
      case atStart => exact ⟨0, 0, rs, by omega, rfl, rfl, by omega, HT.out.enter xi, HR.out, hbw⟩
      case round =>
        clear hcell hbw HR HT
        obtain ⟨k, cy, rs, hk, rfl, rfl, hcy, HT, hrow, hbw⟩ := hrel
        have hcell : wr.cell? ⟨g, i, none⟩ = some (.int .u64 (xi : Int)) := by
          obtain ⟨g2, x2, h1, h2, h3, h4⟩ := own_at_below HH.out hbw (k := i) hin
          injection h1 with h1
          injection h1 with h1
          subst h1
          rw [HX.out] at h2
          injection h2 with h2
          subst h2
          exact h4
        have hrl := HT.out.1
        rw [HL'.out] at hrl
        by_cases hkn : k < n'
        · obtain ⟨g', yk, rfl, hyk, hgl', hcell'⟩ := own_at_below HH'.out hbw hkn
          have hyb : yk < 1000000000 := grp_small y yk (List.mem_of_getElem? hyk)
          obtain ⟨o, ho⟩ : ∃ o, rs[i + k]? = some o := ⟨_, List.getElem?_eq_getElem (by omega)⟩
          have hob : o < 1000000000 := HT.out.2.1 o (List.mem_of_getElem? ho)
          have hco := hrow.cell (k := i + k) (x := o) (by rw [List.getElem?_append_left (by omega)]; exact ho)
          have hfo := hrow.frozen (i + k)
          have hxy := mul_lt_base2 hxb hyb
          have HS := Lib.hid (HT.out.step ho hyk hxb hyb)
          obtain ⟨p, hp⟩ : ∃ p, p = xi * yk := ⟨_, rfl⟩
          have hpc : (xi : Int) * yk = (p : Int) := by rw [hp]; rfl
          rw [← hp] at hxy
          have HPP := Lib.hid hp
          have HR := Lib.hid hrow
          clear hyk ho hrow hp hrl
          go_wp2
          go_roundw
          case rel =>
            refine ⟨k + 1, (cy + (o + p)) / 1000000000, rs.set (i + k) ((cy + (o + p)) % 1000000000), by omega, by go_num, congrArg (Value.int .u64) (by omega), by omega, by rw [HPP.out]; exact HS.out, ?_, hbw.setCell (p := ⟨w.heap.size, i + k, none⟩) (Nat.le_refl _) _⟩
            have h1 := HR.out.setI (i + k) ((cy + (o + p)) % 1000000000) (z := ((cy : Int) + (o + p)) % 1000000000) (by omega)
            rw [List.set_append_left _ _ (by have := HT.out.1; rw [HL'.out] at this; omega)] at h1
            exact h1
          case measure => simp [intOf]; omega
        · obtain rfl : k = n' := by omega
          have HV := Lib.hid (TimesIn.leave (x := xi) (c := cy) (by rw [HL'.out]; exact HT.out) HX.out)
          by_cases hn0 : k = 0
          · subst hn0
            have hcy0 : cy = 0 := by
              have h1 := HT.out.2.2.2
              have hy0 : grp y = [] := List.eq_nil_of_length_eq_zero HL'.out
              rw [hy0] at h1
              simp only [List.take_nil, gv, Nat.mul_zero, Nat.add_zero] at h1
              have h2 : BASE ^ i * cy = 0 := by omega
              rcases Nat.mul_eq_zero.1 h2 with h3 | h3
              · exact absurd h3 (Nat.ne_of_gt (Nat.pow_pos (by decide)))
              · exact h3
            subst hcy0
            go_wp2
            go_roundw
            case rel =>
              refine ⟨i + 1, rs ++ [0], by omega, by go_num, HV.out, ?_, hbw⟩
              rw [show n - i = (n - (i + 1)) + 1 by omega, zpad_skip] at hrow
              exact hrow
            case measure => simp [intOf]; omega
          · have hco := hrow.cell (zpad_at rs (n - i) (i + k) hrl (by omega))
            have hfo := hrow.frozen (i + k)
            go_wp2
            go_roundw
            case rel =>
              refine ⟨i + 1, rs ++ [cy], by omega, by go_num, HV.out, ?_, hbw.setCell (p := ⟨w.heap.size, i + k, none⟩) (Nat.le_refl _) _⟩
              have h1 := hrow.set_ (i + k) cy
              rw [show n - i = (n - (i + 1)) + 1 by omega, zpad_set rs _ (i + k) cy hrl] at h1
              exact h1
            case measure => simp [intOf]; omega
    · obtain rfl : i = n := by omega
      rw [Nat.sub_self, List.replicate_zero, List.append_nil] at hrow
      obtain ⟨h1, h2, h3⟩ := HT.out
      rw [HL'.out] at h1
      rw [List.take_of_length_le (by rw [HL.out]; omega), gv_grp, gv_grp] at h3
      have hown := hrow.own (base := w.heap.size) (n := i + n') (Nat.le_refl _) (by omega) (by unfold maxLen; omega)
      rw [List.take_of_length_le (by omega), h1] at hown
      have HQ : Hid (cutZ rs = grp (x * y)) := by show _ = _; rw [cutZ_eq rs h2, h3]
      clear h1 h2 h3 hrow
      go_wp2_with (go_at_call 137; refine (cut_any _ _ _ rs _ w.heap.size hown).mono ?_; rintro e w3 ⟨rfl, rfl⟩)
      go_ret
      exact ⟨_, rfl, mag_of (own_cut hown) HQ.out, hbw⟩
end Go.Proofs.YtgnppdkeiihlfaaGreatDoor
/- (magnitude).divide: the two short ways. -/
namespace Go.Proofs.YtgnppdkeiihlfaaGreatDoor
open Go.RowKit Num
theorem below_drewN (w : World) (k : Nat) : Below w.heap.size w (w.drewN k) := bdrewN (Below.refl _ _) k
theorem mag_nil (w : World) (base : Nat) : Mag w base (.slice none 0 0) 0 := World.ownsRow_nil _ _ _ _
theorem cmp_lt {a b : Nat} (h : a < b) : decide (cmpG a b < 0) = true := decide_eq_true ((cmpG_neg a b).2 h)
theorem cmp_ge {a b : Nat} (h : b ≤ a) : decide (cmpG a b < 0) = false := decide_eq_false (fun h1 => by have := (cmpG_neg a b).1 h1; omega)
theorem single_var (A : Option Addr) (n c : Nat) (m d : Nat) (w : World) (base : Nat) (h : w.ownsRow base 151 1 (.slice A n c) n (U (grp m))) (hn : n ≤ 1000000000) (hd0 : 1 ≤ d) (hd1 : d ≤ 1000000000) :
    Calls Tryz.prog 272 #[.slice A n c, .int .u64 (d : Int)] w fun e w' => ∃ (v : Value) (r : Nat), e = .returned (.tuple #[v, .int .u64 (r : Int)]) ∧ Hid (r = m % d) ∧ Mag w' w.heap.size v (m / d) ∧ Below w.heap.size w w' :=
  (single_any A n c m d w base h hn hd0 hd1).mono fun _ _ ⟨v, he, h1, h2⟩ => ⟨v, m % d, he, rfl, h1, h2⟩
def Divided (w : World) (x y : Nat) (e : Ending) (w' : World) : Prop := ∃ q r, e = .returned (.tuple #[q, r]) ∧ Mag w' 0 q (x / y) ∧ Mag w' 0 r (x % y) ∧ Below w.heap.size w w'
set_option maxHeartbeats 2000000 in
set_option maxRecDepth 100000 in
theorem divide_lt (A A' : Option Addr) (n c n' c' : Nat) (x y : Nat) (w : World) (base base' : Nat) (h : w.ownsRow base 151 1 (.slice A n c) n (U (grp x))) (h' : w.ownsRow base' 151 1 (.slice A' n' c') n' (U (grp y)))
    (hxy : x < y) :
    Calls Tryz.prog 243 #[.slice A n c, .slice A' n' c'] w (Divided w x y) := by
  have hlt := cmp_lt hxy
  have hlt2 : cmpG x y < 0 := (cmpG_neg x y).2 hxy
  go_enter Tryz.func243, Tryz.ntmps243
  go_wp2_with (go_at_call 68; refine (compare_any A A' n c n' c' x y _ base base' h h').mono ?_; rintro e w1 ⟨rfl, k, rfl⟩)
  go_ret2
  refine ⟨_, _, rfl, ?_, ?_, below_drewN w k⟩
  · rw [Nat.div_eq_of_lt hxy]; exact mag_nil _ _
  · rw [Nat.mod_eq_of_lt hxy]; exact mag_of (own_base (own_below h (below_drewN w k)) (Nat.zero_le _)) rfl
theorem own_one (w : World) (r : Nat) : (w.alloc (.cells #[.int .u64 (r : Int)] 151)).ownsRow 0 151 1 (.slice (some ⟨w.heap.size, 0, none⟩) 1 1) 1 (U [r]) :=
  World.ownsRow_lit w _ 1 (Nat.zero_le _) (by unfold maxLen; omega) rfl
theorem cut_one (r : Nat) (hr : r < BASE) : cutZ [r] = grp r := by
  rw [cutZ_eq [r] (fun z hz => by simp at hz; omega)]; simp [gv]
set_option maxHeartbeats 2000000 in
set_option maxRecDepth 100000 in
theorem divide_one (A A' : Option Addr) (n c c' : Nat) (x y : Nat) (w : World) (base base' : Nat) (h : w.ownsRow base 151 1 (.slice A n c) n (U (grp x))) (h' : w.ownsRow base' 151 1 (.slice A' 1 c') 1 (U (grp y)))
    (hxy : y ≤ x) (hn : n ≤ 1000000000) :
    Calls Tryz.prog 243 #[.slice A n c, .slice A' 1 c'] w (Divided w x y) := by
  have hge := cmp_ge hxy
  have hge2 : ¬ cmpG x y < 0 := fun h1 => by have := (cmpG_neg x y).1 h1; omega
  have hly := own_len h'
  obtain ⟨g, y0, rfl, hy0, _, hgl, hcell, _⟩ := own_at h' (k := 0) (by omega)
  have hyb : y0 < 1000000000 := grp_small y y0 (List.mem_of_getElem? hy0)
  have hyy : y0 = y := by
    have h1 := gv_grp y
    match hg : grp y, hly with
    | [a], _ => rw [hg] at h1 hy0; simp [gv] at h1 hy0; omega
  subst hyy
  have hy1 : 1 ≤ y0 := by
    rcases Nat.eq_zero_or_pos y0 with h1 | h1
    · subst h1; rw [grp_zero] at hly; simp at hly
    · exact h1
  have HH := Lib.hid h
  have HH' := Lib.hid h'
  clear h h' hly hy0
  go_enter Tryz.func243, Tryz.ntmps243
  go_wp2_with (first
    | (go_at_call 68; refine (compare_any A _ n c 1 c' x y0 _ base base' HH.out HH'.out).mono ?_; rintro e w1 ⟨rfl, k, rfl⟩)
    | (go_at_call 272; refine (single_var A n c x y0 _ base (own_below HH.out (below_drewN w k)) hn hy1 (by omega)).mono ?_; rintro e w2 ⟨v, r, rfl, HR, hm, hb2⟩; obtain ⟨Aq, cq, rfl⟩ := hm.form))
  have hrb : r < 1000000000 := by rw [HR.out]; exact Nat.lt_trans (Nat.mod_lt _ (by omega)) hyb
  refine (cut_any _ 1 1 [r] _ 0 (own_one w2 r)).mono ?_
  rintro e w3 ⟨rfl, rfl⟩
  go_wp2_with fail
  go_ret2
  have hb3 := (Below.refl w2.heap.size w2).alloc (Nat.le_refl _) (.cells #[.int .u64 (r : Int)] 151)
  refine ⟨_, _, rfl, (hm.below hb3).base (Nat.zero_le _), ?_, bto (bto (below_drewN w k) hb2) hb3⟩
  rw [← HR.out]
  exact mag_of (own_cut (own_one w2 r)) (cut_one r hrb)
end Go.Proofs.YtgnppdkeiihlfaaGreatDoor
/- Plain arithmetic of long division: the state between two groups of the quotient, the guess, subtraction, adding back. No program in sight. -/
namespace Go.Proofs.YtgnppdkeiihlfaaGreatDoor
namespace Num
def DInv (A qs : List Nat) (L k t b a0 : Nat) : Prop := A.length = L ∧ small A ∧ gv (A.drop t) < b ∧ gv A + b * (BASE ^ t * gv qs) = a0 ∧ qs.length + t + k = L ∧ small qs
theorem pow_le_of_len {b k : Nat} (hk : (grp b).length = k) (h1 : 1 ≤ k) : BASE ^ (k - 1) ≤ b := by
  have h0 : grp b ≠ [] := by intro e; rw [e] at hk; simp at hk; omega
  have := gv_ge _ (grp_norm b) h0
  rwa [gv_grp, hk] at this
theorem DInv.start {a0 b k : Nat} (hk : (grp b).length = k) (hk2 : 2 ≤ k) (hba : b ≤ a0) :
    DInv (grp a0 ++ [0, 0]) [] ((grp a0).length + 2) k ((grp a0).length + 2 - k) b a0 := by
  have hkl : k ≤ (grp a0).length := by rw [← hk]; exact grp_len_mono b a0 hba
  refine ⟨by simp, small_append (grp_small a0) (fun x hx => by simp at hx; subst hx; decide), ?_, ?_, by simp; omega, fun x hx => by simp at hx⟩
  · rw [List.drop_append, show (grp a0).length + 2 - k - (grp a0).length = 0 by omega, List.drop_zero, gv_append]
    simp only [gv, Nat.mul_zero, Nat.add_zero]
    have h1 := gv_lt _ (small_drop (grp_small a0) ((grp a0).length + 2 - k))
    rw [List.length_drop, show (grp a0).length - ((grp a0).length + 2 - k) = k - 2 by omega] at h1
    have h2 := pow_le_of_len hk (by omega)
    have h3 : BASE ^ (k - 2) ≤ BASE ^ (k - 1) := Nat.pow_le_pow_right (by decide) (by omega)
    omega
  · rw [gv_append]; simp [gv, gv_grp]
theorem gv_zero_of_lt {l : List Nat} {k : Nat} (h : gv l < BASE ^ k) (hk : k ≤ l.length) : gv (l.drop k) = 0 := by
  have h1 := gv_split l k hk
  rcases Nat.eq_zero_or_pos (gv (l.drop k)) with h2 | h2
  · exact h2
  · have : BASE ^ k * 1 ≤ BASE ^ k * gv (l.drop k) := Nat.mul_le_mul_left _ h2
    omega
theorem gv_three {l : List Nat} {i x y z : Nat} (hx : l[i]? = some x) (hy : l[i + 1]? = some y) (hz : l[i + 2]? = some z) : gv (l.drop i) = x + BASE * (y + BASE * (z + BASE * gv (l.drop (i + 3)))) := by
  obtain ⟨h1, rfl⟩ := List.getElem?_eq_some_iff.1 hx
  obtain ⟨h2, rfl⟩ := List.getElem?_eq_some_iff.1 hy
  obtain ⟨h3, rfl⟩ := List.getElem?_eq_some_iff.1 hz
  rw [gv_drop l i h1, gv_drop l (i + 1) h2, gv_drop l (i + 2) h3]
theorem gv_two {l : List Nat} {i x y : Nat} (hx : l[i]? = some x) (hy : l[i + 1]? = some y) : gv (l.drop i) = x + BASE * (y + BASE * gv (l.drop (i + 2))) := by
  obtain ⟨h1, rfl⟩ := List.getElem?_eq_some_iff.1 hx
  obtain ⟨h2, rfl⟩ := List.getElem?_eq_some_iff.1 hy
  rw [gv_drop l i h1, gv_drop l (i + 1) h2]
theorem DInv.beyond {A qs : List Nat} {L k j b a0 : Nat} (h : DInv A qs L k (j + 1) b a0) (hb : b < BASE ^ k) : gv (A.drop (j + k + 1)) = 0 := by
  obtain ⟨h1, h2, h3, h4, h5, h6⟩ := h
  have := gv_zero_of_lt (l := A.drop (j + 1)) (k := k) (by omega) (by rw [List.length_drop]; omega)
  rwa [List.drop_drop, show j + 1 + k = j + k + 1 by omega] at this
theorem DInv.tops {A qs : List Nat} {L k j b a0 uh um ul : Nat} (h : DInv A qs L k (j + 1) b a0) (hb : b < BASE ^ k) (hk : 2 ≤ k)
    (huh : A[j + k]? = some uh) (hum : A[j + k - 1]? = some um) (hul : A[j + k - 2]? = some ul) :
    gv (A.drop j) = ((uh * BASE + um) * BASE + ul) * BASE ^ (k - 2) + gv ((A.drop j).take (k - 2)) ∧ gv ((A.drop j).take (k - 2)) < BASE ^ (k - 2) := by
  have hz := h.beyond hb
  obtain ⟨h1, h2, h3, h4, h5, h6⟩ := h
  have hl : (A.drop j).length = L - j := by rw [List.length_drop, h1]
  constructor
  · rw [gv_split (A.drop j) (k - 2) (by omega), List.drop_drop]
    have e1 : j + (k - 2) = j + k - 2 := by omega
    rw [e1, gv_three hul (by rw [show j + k - 2 + 1 = j + k - 1 by omega]; exact hum) (by rw [show j + k - 2 + 2 = j + k by omega]; exact huh), show j + k - 2 + 3 = j + k + 1 by omega, hz]
    rw [Nat.mul_zero, Nat.add_zero, Nat.mul_comm (BASE ^ (k - 2)), Nat.mul_add BASE um, Nat.add_comm]
    congr 2
    rw [Nat.mul_comm uh BASE, Nat.mul_comm _ BASE, Nat.mul_add BASE]
    omega
  · have := gv_lt _ (small_take (small_drop h2 j) (k - 2))
    rw [List.length_take, hl, Nat.min_eq_left (by omega)] at this
    exact this
theorem div_tops {b k bh bm : Nat} (hk : (grp b).length = k) (hk2 : 2 ≤ k) (hbh : (grp b)[k - 1]? = some bh) (hbm : (grp b)[k - 2]? = some bm) :
    b = (bh * BASE + bm) * BASE ^ (k - 2) + gv ((grp b).take (k - 2)) ∧ gv ((grp b).take (k - 2)) < BASE ^ (k - 2) ∧ 1 ≤ bh := by
  have h1 := gv_split (grp b) (k - 2) (by omega)
  rw [gv_grp, gv_two hbm (by rw [show k - 2 + 1 = k - 1 by omega]; exact hbh), List.drop_of_length_le (by omega)] at h1
  simp only [gv, Nat.mul_zero, Nat.add_zero] at h1
  have h2 := gv_lt _ (small_take (grp_small b) (k - 2))
  rw [List.length_take, hk, Nat.min_eq_left (by omega)] at h2
  refine ⟨?_, h2, ?_⟩
  · have e : BASE ^ (k - 2) * (bm + BASE * bh) = (bh * BASE + bm) * BASE ^ (k - 2) := by rw [Nat.mul_comm, Nat.add_comm bm, Nat.mul_comm BASE bh]
    omega
  · have hn := grp_norm b
    unfold norm at hn
    rw [List.getLast?_eq_getElem?, hk, hbh] at hn
    simp at hn; omega
theorem div_big {b bh bm P r : Nat} (h : b = (bh * BASE + bm) * P + r) (h1 : 1 ≤ bh) : BASE * P ≤ b := by
  have h4 : BASE ≤ bh * BASE + bm := Nat.le_trans (Nat.le_mul_of_pos_left BASE h1) (Nat.le_add_right _ _)
  rw [h]
  exact Nat.le_trans (Nat.mul_le_mul_right P h4) (Nat.le_add_right _ _)
theorem scaled_div {x y s : Nat} (hs : 1 ≤ s) : x * s / (y * s) = x / y := Nat.mul_div_mul_right _ _ (by omega)
theorem scaled_mod {x y s : Nat} (hs : 1 ≤ s) : x * s % (y * s) / s = x % y := by rw [Nat.mul_mod_mul_right, Nat.mul_div_cancel _ (by omega)]
def Guess (u v g : Nat) : Prop := g ≤ 999999999 ∧ ∀ G, G ≤ 999999999 → G * v ≤ u → G ≤ g
theorem Guess.start {top ul bh bm : Nat} (hbh : 1 ≤ bh) : Guess (top * BASE + ul) (bh * BASE + bm) (min (top / bh) 999999999) ∨ ul ≥ BASE := by
  by_cases hu : ul < BASE
  · left
    refine ⟨Nat.min_le_right _ _, fun G hG h => ?_⟩
    refine Nat.le_min.2 ⟨?_, hG⟩
    rw [Nat.le_div_iff_mul_le (by omega)]
    rcases Nat.lt_or_ge top (G * bh) with h1 | h1
    · have h2 : (top + 1) * BASE ≤ G * bh * BASE := Nat.mul_le_mul_right _ h1
      rw [Nat.add_mul] at h2
      have h3 : G * (bh * BASE + bm) = G * bh * BASE + G * bm := by rw [Nat.mul_add, Nat.mul_assoc]
      omega
    · exact h1
  · right; omega
theorem Guess.down {top ul bh bm g : Nat} (h : Guess (top * BASE + ul) (bh * BASE + bm) g) (hle : g * bh ≤ top) (hbad : (top - g * bh) * BASE + ul < g * bm) : 1 ≤ g ∧ Guess (top * BASE + ul) (bh * BASE + bm) (g - 1) := by
  have hg : 1 ≤ g := by
    rcases Nat.eq_zero_or_pos g with h0 | h0
    · subst h0; simp at hbad
    · exact h0
  refine ⟨hg, by have := h.1; omega, fun G hG h1 => ?_⟩
  have h2 := h.2 G hG h1
  rcases Nat.lt_or_ge G g with h3 | h3
  · omega
  · have : G = g := by omega
    subst this
    have e : G * (bh * BASE + bm) = G * bh * BASE + G * bm := by rw [Nat.mul_add, Nat.mul_assoc]
    have e2 : (top - G * bh) * BASE = top * BASE - G * bh * BASE := Nat.sub_mul _ _ _
    have e3 : G * bh * BASE ≤ top * BASE := Nat.mul_le_mul_right _ hle
    omega
theorem guess_good {top ul bh bm g : Nat} (hle : g * bh ≤ top) (hok : g * bm ≤ (top - g * bh) * BASE + ul) : g * (bh * BASE + bm) ≤ top * BASE + ul := by
  have e : g * (bh * BASE + bm) = g * bh * BASE + g * bm := by rw [Nat.mul_add, Nat.mul_assoc]
  have e2 : (top - g * bh) * BASE = top * BASE - g * bh * BASE := Nat.sub_mul _ _ _
  have e3 : g * bh * BASE ≤ top * BASE := Nat.mul_le_mul_right _ hle
  omega
theorem Guess.fin {U b u v g P ul vl : Nat} (h : Guess u v g) (hg : g * v ≤ u) (hU : U = u * P + ul) (hV : b = v * P + vl) (hul : ul < P) (hvl : vl < P) (hb : BASE * P ≤ b) (hUb : U < BASE * b) :
    (g * b ≤ U → U - g * b < b) ∧ (U < g * b → 1 ≤ g ∧ (g - 1) * b ≤ U ∧ U - (g - 1) * b < b) := by
  have hb0 : 0 < b := by
    have : 0 < P := by omega
    have : BASE * 1 ≤ BASE * P := Nat.mul_le_mul_left _ this
    unfold BASE at *; omega
  have hQ : U / b ≤ 999999999 := by
    have : U / b < BASE := (Nat.div_lt_iff_lt_mul hb0).2 hUb
    unfold BASE at this; omega
  have h1 := guess_ge U b u v P ul vl (U / b) hU hV hul (Nat.div_mul_le_self U b)
  have h2 := h.2 _ hQ h1
  have h3 := guess_le U b u v P ul vl g hU hV hvl hg (by have := h.1; unfold BASE; omega) hb
  have h4 := Nat.lt_succ_iff.2 h2
  have h5 : U < (g + 1) * b := by
    have := (Nat.div_lt_iff_lt_mul hb0).1 h4
    exact this
  rw [Nat.add_mul] at h5
  refine ⟨fun h => by omega, fun h => ?_⟩
  have hg1 : 1 ≤ g := by
    rcases Nat.eq_zero_or_pos g with h0 | h0
    · subst h0; simp at h
    · exact h0
  have e : (g - 1) * b = g * b - b := by rw [Nat.sub_mul, Nat.one_mul]
  exact ⟨hg1, by omega, by omega⟩
def rowJ (A : List Nat) (j : Nat) (ps : List Nat) (r : Nat) : List Nat := A.take j ++ (ps ++ A.drop (j + r))
theorem rowJ_zero (A : List Nat) (j : Nat) : rowJ A j [] 0 = A := by simp [rowJ]
theorem rowJ_len {A ps : List Nat} {j r : Nat} (hp : ps.length = r) (hj : j + r ≤ A.length) : (rowJ A j ps r).length = A.length := by
  simp [rowJ]; omega
theorem rowJ_at {A ps : List Nat} {j r s : Nat} (hp : ps.length = r) (hj : j + r ≤ A.length) (hs : r ≤ s) : (rowJ A j ps r)[j + s]? = A[j + s]? := by
  unfold rowJ
  rw [List.getElem?_append_right (by simp; omega), List.getElem?_append_right (by simp; omega), List.getElem?_drop]
  congr 1
  simp; omega
theorem rowJ_in {A ps : List Nat} {j r s : Nat} (hp : ps.length = r) (hj : j + r ≤ A.length) (hs : s < r) : (rowJ A j ps r)[j + s]? = ps[s]? := by
  unfold rowJ
  rw [List.getElem?_append_right (by simp; omega), List.getElem?_append_left (by simp; omega)]
  congr 1
  simp; omega
theorem rowJ_set {A ps : List Nat} {j r : Nat} (hp : ps.length = r) (hj : j + r < A.length) (y : Nat) : (rowJ A j ps r).set (j + r) y = rowJ A j (ps ++ [y]) (r + 1) := by
  unfold rowJ
  have e : (A.drop (j + r)).set 0 y = y :: A.drop (j + (r + 1)) := by rw [List.drop_eq_getElem_cons hj]; rfl
  rw [List.set_append_right _ _ (by simp; omega), List.length_take, Nat.min_eq_left (by omega), List.set_append_right _ _ (by omega), show j + r - j - ps.length = 0 by omega, e]
  simp
theorem rowJ_rowJ {A ps X : List Nat} {j k : Nat} (hp : ps.length = k) (hj : j + k ≤ A.length) : rowJ (rowJ A j ps k) j X (k + 1) = rowJ A j X (k + 1) := by
  unfold rowJ
  have e1 : (A.take j ++ (ps ++ A.drop (j + k))).take j = A.take j := by
    rw [List.take_append_of_le_length (by simp; omega), List.take_of_length_le (by simp; omega)]
  have e2 : (A.take j ++ (ps ++ A.drop (j + k))).drop (j + (k + 1)) = A.drop (j + (k + 1)) := by
    rw [List.drop_append, List.drop_of_length_le (by simp; omega), List.nil_append, List.drop_append, List.drop_of_length_le (by simp; omega), List.nil_append, List.drop_drop]
    congr 1
    simp; omega
  rw [e1, e2]
def SubAt (D B : List Nat) (g : Nat) (ps : List Nat) (r br : Nat) : Prop := ps.length = r ∧ small ps ∧ br ≤ 999999999 ∧ gv ps + g * gv (B.take r) = gv (D.take r) + BASE ^ r * br
theorem SubAt.step {D B ps : List Nat} {g r br x y x' br' : Nat} (h : SubAt D B g ps r br) (hx : D[r]? = some x) (hy : B[r]? = some y) (hx' : x' < BASE) (hbr : br' ≤ 999999999) (he : x' + (g * y + br) = x + BASE * br') : SubAt D B g (ps ++ [x']) (r + 1) br' := by
  obtain ⟨h1, h2, h3, h4⟩ := h
  refine ⟨by simp [h1], small_snoc h2 hx', hbr, ?_⟩
  rw [gv_snoc, h1, gv_take_of hx, gv_take_of hy, Nat.pow_succ, Nat.mul_add]
  have e : BASE ^ r * x' + (BASE ^ r * (g * y) + BASE ^ r * br) = BASE ^ r * x + BASE ^ r * BASE * br' := by
    rw [← Nat.mul_add, ← Nat.mul_add, he, Nat.mul_add, Nat.mul_assoc]
  have e2 : g * (BASE ^ r * y) = BASE ^ r * (g * y) := by rw [← Nat.mul_assoc, Nat.mul_comm g, Nat.mul_assoc]
  omega
theorem DInv.next {A qs ps : List Nat} {L k j b a0 Q : Nat} (h : DInv A qs L k (j + 1) b a0) (hb : b < BASE ^ k) (hp : ps.length = k + 1) (hs : small ps) (hv : gv ps + Q * b = gv (A.drop j)) (hlt : gv ps < b) (hQ : Q < BASE) :
    DInv (rowJ A j ps (k + 1)) (Q :: qs) L k j b a0 := by
  have hz := h.beyond hb
  obtain ⟨h1, h2, h3, h4, h5, h6⟩ := h
  have hjl : j + (k + 1) ≤ A.length := by omega
  have hd : gv ((rowJ A j ps (k + 1)).drop j) = gv ps := by
    have e : (rowJ A j ps (k + 1)).drop j = ps ++ A.drop (j + (k + 1)) := by
      unfold rowJ
      rw [List.drop_append, List.drop_of_length_le (by simp; omega), List.nil_append, List.length_take, Nat.min_eq_left (by omega), Nat.sub_self, List.drop_zero]
    rw [e, gv_append, show j + (k + 1) = j + k + 1 by omega, hz]; simp
  refine ⟨by rw [rowJ_len hp hjl, h1], ?_, by rw [hd]; exact hlt, ?_, by simp; omega, ?_⟩
  · unfold rowJ
    exact small_append (small_take h2 _) (small_append hs (small_drop h2 _))
  · have e1 : gv (rowJ A j ps (k + 1)) = gv (A.take j) + BASE ^ j * gv ps := by
      have h7 := gv_split (rowJ A j ps (k + 1)) j (by rw [rowJ_len hp hjl]; omega)
      rw [hd] at h7
      have e2 : (rowJ A j ps (k + 1)).take j = A.take j := by
        unfold rowJ
        rw [List.take_append_of_le_length (by simp; omega), List.take_of_length_le (by simp; omega)]
      rw [e2] at h7
      exact h7
    have h8 := gv_split A j (by omega)
    rw [e1]
    rw [h8] at h4
    rw [← h4, ← hv]
    simp only [gv]
    have e3 : b * (BASE ^ j * (Q + BASE * gv qs)) = BASE ^ j * (Q * b) + b * (BASE ^ (j + 1) * gv qs) := by
      rw [Nat.mul_add, Nat.mul_add, Nat.pow_succ, Nat.mul_assoc]
      congr 1
      rw [Nat.mul_comm b, Nat.mul_assoc]
    rw [e3, Nat.mul_add (BASE ^ j)]
    omega
  · intro x hx
    rcases List.mem_cons.1 hx with rfl | hx
    · exact hQ
    · exact h6 x hx
theorem DInv.lt {A qs : List Nat} {L k j b a0 : Nat} (h : DInv A qs L k (j + 1) b a0) : gv (A.drop j) < BASE * b := by
  obtain ⟨h1, h2, h3, h4, h5, h6⟩ := h
  have hj : j < A.length := by omega
  rw [gv_drop A j hj]
  have h7 : A[j] < BASE := h2 _ (List.getElem_mem hj)
  have h8 : BASE * (gv (A.drop (j + 1)) + 1) ≤ BASE * b := Nat.mul_le_mul_left _ h3
  rw [Nat.mul_add] at h8
  omega
theorem DInv.split_top {A qs : List Nat} {L k j b a0 uh : Nat} (h : DInv A qs L k (j + 1) b a0) (hb : b < BASE ^ k) (huh : A[j + k]? = some uh) : gv (A.drop j) = gv ((A.drop j).take k) + BASE ^ k * uh := by
  have hz := h.beyond hb
  obtain ⟨h1, h2, h3, h4, h5, h6⟩ := h
  obtain ⟨hl, he⟩ := List.getElem?_eq_some_iff.1 huh
  rw [gv_split (A.drop j) k (by rw [List.length_drop]; omega), List.drop_drop, gv_drop A (j + k) hl, he, hz, Nat.mul_zero, Nat.add_zero]
theorem round1 {A qs B ps : List Nat} {L k j b a0 uh g br : Nat} (h : DInv A qs L k (j + 1) b a0) (hb : b < BASE ^ k) (hB : gv B = b) (hBl : B.length = k) (hs : SubAt (A.drop j) B g ps k br) (huh : A[j + k]? = some uh) (hle : br ≤ uh)
    (hfin : g * b ≤ gv (A.drop j) → gv (A.drop j) - g * b < b) (hg : g ≤ 999999999) : DInv (rowJ A j (ps ++ [uh - br]) (k + 1)) (g :: qs) L k j b a0 := by
  have hU := h.split_top hb huh
  have huhb : uh < BASE := h.2.1 uh (List.mem_of_getElem? huh)
  obtain ⟨s1, s2, s3, s4⟩ := hs
  rw [List.take_of_length_le (by omega), hB] at s4
  have e : BASE ^ k * (uh - br) + BASE ^ k * br = BASE ^ k * uh := by rw [← Nat.mul_add, Nat.sub_add_cancel hle]
  have hv : gv (ps ++ [uh - br]) + g * b = gv (A.drop j) := by rw [gv_snoc, s1]; omega
  exact h.next hb (by simp [s1]) (small_snoc s2 (by omega)) hv (by have := hfin (by omega); omega) (by unfold BASE; omega)
theorem round2 {A qs B ps : List Nat} {L k j b a0 uh g br : Nat} (h : DInv A qs L k (j + 1) b a0) (hb : b < BASE ^ k) (hB : gv B = b) (hBl : B.length = k) (hs : SubAt (A.drop j) B g ps k br) (huh : A[j + k]? = some uh) (hlt : uh < br) : gv (A.drop j) < g * b := by
  have hU := h.split_top hb huh
  obtain ⟨s1, s2, s3, s4⟩ := hs
  rw [List.take_of_length_le (by omega), hB] at s4
  have h1 := gv_lt ps s2
  rw [s1] at h1
  have e : BASE ^ k * (uh + 1) ≤ BASE ^ k * br := Nat.mul_le_mul_left _ hlt
  rw [Nat.mul_add] at e
  omega
theorem round3 {A qs B ps ps2 : List Nat} {L k j b a0 uh g br cy : Nat} (h : DInv A qs L k (j + 1) b a0) (hb : b < BASE ^ k) (hB : gv B = b) (hBl : B.length = k) (hs : SubAt (A.drop j) B g ps k br) (huh : A[j + k]? = some uh) (hlt : uh < br)
    (hg1 : 1 ≤ g) (hle : (g - 1) * b ≤ gv (A.drop j)) (hfin : gv (A.drop j) - (g - 1) * b < b) (hg : g ≤ 999999999) (hl2 : ps2.length = k) (hs2 : small ps2) (hcy : cy ≤ 1) (hv2 : gv ps2 + BASE ^ k * cy = gv ps + b) :
    br ≤ uh + cy ∧ DInv (rowJ A j (ps2 ++ [uh + cy - br]) (k + 1)) ((g - 1) :: qs) L k j b a0 := by
  have hU := h.split_top hb huh
  obtain ⟨s1, s2, s3, s4⟩ := hs
  rw [List.take_of_length_le (by omega), hB] at s4
  have h1 := gv_lt ps2 hs2
  rw [hl2] at h1
  have e1 : (g - 1) * b + b = g * b := by
    obtain ⟨g', rfl⟩ : ∃ g', g = g' + 1 := ⟨g - 1, by omega⟩
    rw [Nat.add_sub_cancel, Nat.add_mul, Nat.one_mul]
  have e2 : BASE ^ k * (uh + cy) = BASE ^ k * uh + BASE ^ k * cy := Nat.mul_add _ _ _
  have hbr : br ≤ uh + cy := by
    rcases Nat.lt_or_ge (uh + cy) br with h3 | h3
    · have e : BASE ^ k * (uh + cy + 1) ≤ BASE ^ k * br := Nat.mul_le_mul_left _ h3
      rw [Nat.mul_add _ _ 1] at e
      omega
    · exact h3
  refine ⟨hbr, ?_⟩
  have e3 : BASE ^ k * (uh + cy - br) + BASE ^ k * br = BASE ^ k * (uh + cy) := by rw [← Nat.mul_add, Nat.sub_add_cancel hbr]
  have hv : gv (ps2 ++ [uh + cy - br]) + (g - 1) * b = gv (A.drop j) := by rw [gv_snoc, hl2]; omega
  exact h.next hb (by simp [hl2]) (small_snoc hs2 (by unfold BASE; omega)) hv (by omega) (by unfold BASE; omega)
theorem DInv.fin {A qs : List Nat} {L k b a0 : Nat} (h : DInv A qs L k 0 b a0) (hb : b < BASE ^ k) : gv qs = a0 / b ∧ gv (A.take k) = a0 % b ∧ small qs ∧ small (A.take k) := by
  obtain ⟨h1, h2, h3, h4, h5, h6⟩ := h
  rw [List.drop_zero] at h3
  simp only [Nat.pow_zero, Nat.one_mul] at h4
  have h7 := gv_split A k (by omega)
  rw [gv_zero_of_lt (l := A) (by omega) (by omega), Nat.mul_zero, Nat.add_zero] at h7
  refine ⟨?_, ?_, h6, small_take h2 k⟩
  · rw [← h4, Nat.add_mul_div_left _ _ (by omega), Nat.div_eq_of_lt h3, Nat.zero_add]
  · rw [← h7, ← h4, Nat.add_mul_mod_self_left, Nat.mod_eq_of_lt h3]
end Num
end Go.Proofs.YtgnppdkeiihlfaaGreatDoor
