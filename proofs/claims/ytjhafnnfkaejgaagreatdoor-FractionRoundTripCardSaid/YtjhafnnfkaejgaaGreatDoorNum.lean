/- Plain arithmetic of decimal texts and of groups of nine digits. No program in sight. -/
namespace Go.Proofs.YtjhafnnfkaejgaaGreatDoor
namespace Num

abbrev BASE : Nat := 1000000000

/-! Decimal digits. -/
def isDig (b : UInt8) : Bool := decide (48 ≤ b.toNat) && decide (b.toNat ≤ 57)
def nat (l : List UInt8) : Nat := l.foldl (fun n b => 10 * n + (b.toNat - 48)) 0
def dg (k : Nat) : UInt8 := UInt8.ofNat (48 + k % 10)
def decN : Nat → Nat → List UInt8
  | 0, _ => []
  | f + 1, n => if n = 0 then [] else decN f (n / 10) ++ [dg n]
def dec (n : Nat) : List UInt8 := decN n n
def sig (l : List UInt8) : List UInt8 := l.dropWhile (· == 48)
def isNeg (s : List UInt8) : Bool := s.head? == some 45
def rest (s : List UInt8) : List UInt8 := if isNeg s then s.tail else s
def okDig (s : List UInt8) : Bool := (rest s).all isDig
/-- the significant digits, none where the value is 0 -/
def digs (s : List UInt8) : List UInt8 := if okDig s then sig (rest s) else []
def negB (s : List UInt8) : Bool := isNeg s && !(digs s).isEmpty
def val (s : List UInt8) : Int := if negB s then -(nat (digs s) : Int) else (nat (digs s) : Int)
def canon (z : Int) : List UInt8 := if z < 0 then 45 :: dec z.natAbs else dec z.natAbs

theorem dg_toNat (k : Nat) : (dg k).toNat = 48 + k % 10 := by
  unfold dg; rw [UInt8.toNat_ofNat']; omega
theorem isDig_dg (k : Nat) : isDig (dg k) = true := by
  have := dg_toNat k
  simp [isDig, this]; omega
theorem foldl_nat (l : List UInt8) (n : Nat) : l.foldl (fun n b => 10 * n + (b.toNat - 48)) n = n * 10 ^ l.length + nat l := by
  induction l generalizing n with
  | nil => simp [nat]
  | cons b l ih =>
    have h1 := ih (10 * n + (b.toNat - 48))
    have h2 := ih (10 * 0 + (b.toNat - 48))
    simp only [nat, List.foldl_cons, List.length_cons] at *
    rw [h1, h2, Nat.pow_succ, Nat.add_mul, Nat.add_mul]
    have : 10 * n * 10 ^ l.length = n * (10 ^ l.length * 10) := by rw [Nat.mul_comm 10 n, Nat.mul_assoc, Nat.mul_comm 10]
    omega
theorem nat_nil : nat [] = 0 := rfl
theorem nat_append (l m : List UInt8) : nat (l ++ m) = nat l * 10 ^ m.length + nat m := by
  unfold nat; rw [List.foldl_append]; exact foldl_nat m _
theorem nat_cons (b : UInt8) (l : List UInt8) : nat (b :: l) = (b.toNat - 48) * 10 ^ l.length + nat l := by
  have := nat_append [b] l
  simpa [nat] using this
theorem nat_snoc (l : List UInt8) (b : UInt8) : nat (l ++ [b]) = 10 * nat l + (b.toNat - 48) := by
  rw [nat_append]; simp [nat]; omega
theorem nat_lt (l : List UInt8) (h : l.all isDig = true) : nat l < 10 ^ l.length := by
  induction l with
  | nil => simp [nat]
  | cons b l ih =>
    simp only [List.all_cons, Bool.and_eq_true] at h
    have h1 := ih h.2
    have h2 : b.toNat - 48 ≤ 9 := by simp [isDig] at h; omega
    rw [nat_cons, List.length_cons, Nat.pow_succ]
    have := Nat.mul_le_mul_right (10 ^ l.length) h2
    omega
theorem nat_sig (l : List UInt8) : nat (sig l) = nat l := by
  induction l with
  | nil => rfl
  | cons b l ih =>
    unfold sig at *
    rw [List.dropWhile_cons]
    by_cases hb : b = 48
    · subst hb; simp [ih, nat_cons]
    · simp [hb]
theorem decN_eq (f g n : Nat) (hf : n ≤ f) (hg : n ≤ g) : decN f n = decN g n := by
  induction f generalizing g n with
  | zero =>
    have : n = 0 := by omega
    subst this
    cases g <;> simp [decN]
  | succ f ih =>
    cases g with
    | zero =>
      have : n = 0 := by omega
      subst this
      simp [decN]
    | succ g =>
      simp only [decN]
      by_cases h : n = 0
      · simp [h]
      · rw [if_neg h, if_neg h, ih g (n / 10) (by omega) (by omega)]
theorem dec_zero : dec 0 = [] := rfl
theorem dec_pos (n : Nat) (h : n ≠ 0) : dec n = dec (n / 10) ++ [dg n] := by
  unfold dec
  obtain ⟨m, rfl⟩ : ∃ m, n = m + 1 := ⟨n - 1, by omega⟩
  rw [decN, if_neg h, decN_eq m ((m + 1) / 10) _ (by omega) (by omega)]
theorem dec_step (q d : Nat) (hd : d < 10) (h : 10 * q + d ≠ 0) : dec (10 * q + d) = dec q ++ [dg d] := by
  rw [dec_pos _ h, show (10 * q + d) / 10 = q by omega]
  unfold dg
  rw [show (10 * q + d) % 10 = d % 10 by omega]
theorem nat_dec (n : Nat) : nat (dec n) = n := by
  induction n using Nat.strongRecOn with
  | ind n ih =>
    by_cases h : n = 0
    · subst h; rfl
    · rw [dec_pos n h, nat_snoc, ih _ (by omega), dg_toNat]; omega
theorem dec_digs (n : Nat) : (dec n).all isDig = true := by
  induction n using Nat.strongRecOn with
  | ind n ih =>
    by_cases h : n = 0
    · subst h; rfl
    · rw [dec_pos n h, List.all_append, ih _ (by omega)]; simp [isDig_dg]
theorem dec_eq_nil (n : Nat) : dec n = [] ↔ n = 0 := by
  constructor
  · intro h
    by_cases h0 : n = 0
    · exact h0
    · rw [dec_pos n h0] at h; simp at h
  · rintro rfl; rfl
theorem dec_head (n : Nat) : (dec n).head? ≠ some 48 := by
  induction n using Nat.strongRecOn with
  | ind n ih =>
    by_cases h : n = 0
    · subst h; simp [dec_zero]
    · rw [dec_pos n h]
      by_cases h1 : n / 10 = 0
      · rw [h1, dec_zero]
        intro h2
        simp at h2
        have := dg_toNat n
        rw [h2] at this
        simp at this
        omega
      · have h2 := ih (n / 10) (by omega)
        cases hh : dec (n / 10) with
        | nil => rw [dec_eq_nil] at hh; omega
        | cons a t => rw [hh] at h2; simpa using h2
theorem sig_dec (n : Nat) : sig (dec n) = dec n := by
  unfold sig
  have := dec_head n
  cases h : dec n with
  | nil => rfl
  | cons a t => rw [h] at this; simp at this; rw [List.dropWhile_cons]; simp [this]
theorem digit_of (b : UInt8) (h : isDig b = true) : dg (b.toNat - 48) = b := by
  simp [isDig] at h
  unfold dg
  rw [Nat.mod_eq_of_lt (by omega), show 48 + (b.toNat - 48) = b.toNat by omega]
  exact UInt8.ofNat_toNat
theorem dec_nat (l : List UInt8) (h : l.all isDig = true) : dec (nat l) = sig l := by
  obtain ⟨k, hk⟩ : ∃ k, k = l.length := ⟨_, rfl⟩
  induction k generalizing l with
  | zero =>
    have : l = [] := List.eq_nil_of_length_eq_zero hk.symm
    subst this; rfl
  | succ k ih =>
    rcases List.eq_nil_or_concat l with rfl | ⟨m, b, rfl⟩
    · simp at hk
    · simp only [List.concat_eq_append] at *
      simp only [List.all_append, Bool.and_eq_true, List.all_cons, List.all_nil, Bool.and_true] at h
      have hm := ih m h.1 (by simp at hk; omega)
      have hb := h.2
      simp [isDig] at hb
      rw [nat_snoc]
      by_cases h0 : 10 * nat m + (b.toNat - 48) = 0
      · have e1 : nat m = 0 := by omega
        have e2 : b = 48 := by
          apply UInt8.toNat_inj.1
          show b.toNat = 48
          omega
        rw [h0, dec_zero]
        rw [e1, dec_zero] at hm
        subst e2
        unfold sig at *
        rw [List.dropWhile_append, ← hm]; simp
      · rw [dec_step _ _ (by omega) h0, digit_of b h.2, hm]
        unfold sig at *
        rw [List.dropWhile_append]
        by_cases h1 : (List.dropWhile (fun x => x == 48) m) = []
        · rw [h1] at hm
          rw [dec_eq_nil] at hm
          have hne : b ≠ 48 := by rintro rfl; simp [hm] at h0
          simp [h1, hne]
        · rw [if_neg (by simpa using h1)]
theorem sig_digs (l : List UInt8) (h : l.all isDig = true) : (sig l).all isDig = true := by
  rw [← dec_nat l h]; exact dec_digs _
theorem dec_len_le (n k : Nat) (h : n < 10 ^ k) : (dec n).length ≤ k := by
  induction k generalizing n with
  | zero => have : n = 0 := by simpa using h
            subst this; simp [dec_zero]
  | succ k ih =>
    by_cases h0 : n = 0
    · subst h0; simp [dec_zero]
    · rw [dec_pos n h0, List.length_append]
      have := ih (n / 10) (by rw [Nat.pow_succ] at h; omega)
      simp; omega
theorem le_dec_len (n : Nat) : n < 10 ^ (dec n).length := by
  have := nat_lt _ (dec_digs n); rwa [nat_dec] at this
theorem dec_len_lt (n k : Nat) (h : 10 ^ k ≤ n) : k < (dec n).length := by
  rcases Nat.lt_or_ge k (dec n).length with h1 | h1
  · exact h1
  · have := le_dec_len n
    have := Nat.pow_le_pow_right (n := 10) (by omega) h1
    omega
theorem dec_len_mono (m n : Nat) (h : m ≤ n) : (dec m).length ≤ (dec n).length :=
  dec_len_le _ _ (Nat.lt_of_le_of_lt h (le_dec_len n))
theorem dec_inj {m n : Nat} (h : dec m = dec n) : m = n := by rw [← nat_dec m, h, nat_dec]

/-! The value of a string. -/
theorem digs_dec (s : List UInt8) : digs s = dec (val s).natAbs := by
  have h : (val s).natAbs = nat (digs s) := by unfold val; split <;> simp
  rw [h]
  unfold digs
  split
  · rename_i hd
    rw [dec_nat _ (sig_digs _ hd)]
    rw [← dec_nat _ hd, sig_dec]
  · rfl
theorem negB_val (s : List UInt8) : negB s = decide (val s < 0) := by
  have hd := digs_dec s
  unfold val
  by_cases h : negB s = true
  · rw [h]
    have h2 : digs s ≠ [] := by
      unfold negB at h; simp at h; exact h.2
    rw [hd] at h2
    have h3 : (val s).natAbs ≠ 0 := fun e => h2 (by rw [e]; rfl)
    have h4 : nat (digs s) = (val s).natAbs := by rw [hd, nat_dec]
    simp
    omega
  · have h' : negB s = false := by simpa using h
    rw [h']; simp
theorem canon_val (s : List UInt8) : canon (val s) = if negB s then 45 :: digs s else digs s := by
  rw [negB_val, digs_dec]
  unfold canon
  by_cases h : val s < 0 <;> simp [h]
theorem isNeg_canon (z : Int) : isNeg (canon z) = decide (z < 0) := by
  unfold canon isNeg
  by_cases h : z < 0
  · simp [h]
  · rw [if_neg h]
    have hd := dec_digs z.natAbs
    cases hc : dec z.natAbs with
    | nil => simp [h]
    | cons a t =>
      rw [hc] at hd
      simp [isDig] at hd
      have : a ≠ 45 := by rintro rfl; simp at hd
      simp [h, this]
theorem rest_canon (z : Int) : rest (canon z) = dec z.natAbs := by
  unfold rest
  rw [isNeg_canon]
  unfold canon
  by_cases h : z < 0 <;> simp [h]
theorem digs_canon (z : Int) : digs (canon z) = dec z.natAbs := by
  unfold digs okDig
  rw [rest_canon, dec_digs, sig_dec]; rfl
theorem negB_canon (z : Int) : negB (canon z) = decide (z < 0) := by
  unfold negB
  rw [digs_canon, isNeg_canon]
  by_cases h : z < 0
  · have : dec z.natAbs ≠ [] := by rw [Ne, dec_eq_nil]; omega
    simp [h, this]
  · simp [h]
theorem val_canon (z : Int) : val (canon z) = z := by
  unfold val
  rw [negB_canon, digs_canon, nat_dec]
  by_cases h : z < 0 <;> simp [h] <;> omega
theorem canon_inj {y z : Int} (h : canon y = canon z) : y = z := by rw [← val_canon y, h, val_canon]
theorem canon_zero : canon 0 = [] := rfl
theorem canon_eq_nil (z : Int) : canon z = [] ↔ z = 0 := by
  constructor
  · intro h; exact canon_inj (h.trans canon_zero.symm)
  · rintro rfl; rfl
theorem canon_len_le (z : Int) (k : Nat) (h : z.natAbs < 10 ^ k) : (canon z).length ≤ k + 1 := by
  have := dec_len_le _ _ h
  unfold canon; split <;> simp <;> omega
theorem val_lt (s : List UInt8) : (val s).natAbs < 10 ^ s.length := by
  have h : (val s).natAbs = nat (digs s) := by unfold val; split <;> simp
  rw [h]
  have h1 : (digs s).all isDig = true := by rw [digs_dec]; exact dec_digs _
  have h2 := nat_lt _ h1
  have h3 : (digs s).length ≤ s.length := by
    unfold digs sig rest
    split
    · refine Nat.le_trans (List.dropWhile_sublist _).length_le ?_
      split <;> simp
    · simp
  exact Nat.lt_of_lt_of_le h2 (Nat.pow_le_pow_right (by omega) h3)

/-! Groups. -/
def grpN : Nat → Nat → List Nat
  | 0, _ => []
  | f + 1, n => if n = 0 then [] else n % BASE :: grpN f (n / BASE)
def grp (n : Nat) : List Nat := grpN n n
def gv : List Nat → Nat
  | [] => 0
  | g :: l => g + BASE * gv l
def small (l : List Nat) : Prop := ∀ x ∈ l, x < BASE
def norm (l : List Nat) : Prop := l.getLast? ≠ some 0
def cutZ (l : List Nat) : List Nat := (l.reverse.dropWhile (· == 0)).reverse

theorem grpN_eq (f g n : Nat) (hf : n ≤ f) (hg : n ≤ g) : grpN f n = grpN g n := by
  induction f generalizing g n with
  | zero =>
    have : n = 0 := by omega
    subst this
    cases g <;> simp [grpN]
  | succ f ih =>
    cases g with
    | zero =>
      have : n = 0 := by omega
      subst this
      simp [grpN]
    | succ g =>
      simp only [grpN]
      by_cases h : n = 0
      · simp [h]
      · rw [if_neg h, if_neg h, ih g (n / BASE) (by unfold BASE; omega) (by unfold BASE; omega)]
theorem grp_zero : grp 0 = [] := rfl
theorem grp_pos (n : Nat) (h : n ≠ 0) : grp n = n % BASE :: grp (n / BASE) := by
  unfold grp
  obtain ⟨m, rfl⟩ : ∃ m, n = m + 1 := ⟨n - 1, by omega⟩
  rw [grpN, if_neg h, grpN_eq m ((m + 1) / BASE) _ (by unfold BASE; omega) (by omega)]
theorem gv_grp (n : Nat) : gv (grp n) = n := by
  induction n using Nat.strongRecOn with
  | ind n ih =>
    by_cases h : n = 0
    · subst h; rfl
    · rw [grp_pos n h, gv, ih _ (by unfold BASE; omega)]; unfold BASE; omega
theorem grp_small (n : Nat) : small (grp n) := by
  induction n using Nat.strongRecOn with
  | ind n ih =>
    by_cases h : n = 0
    · subst h; intro x hx; simp [grp_zero] at hx
    · rw [grp_pos n h]
      intro x hx
      rcases List.mem_cons.1 hx with rfl | hx
      · unfold BASE; omega
      · exact ih _ (by unfold BASE; omega) x hx
theorem grp_eq_nil (n : Nat) : grp n = [] ↔ n = 0 := by
  constructor
  · intro h
    by_cases h0 : n = 0
    · exact h0
    · rw [grp_pos n h0] at h; simp at h
  · rintro rfl; rfl
theorem grp_norm (n : Nat) : norm (grp n) := by
  induction n using Nat.strongRecOn with
  | ind n ih =>
    by_cases h : n = 0
    · subst h; simp [norm, grp_zero]
    · rw [grp_pos n h]
      by_cases h1 : n / BASE = 0
      · rw [h1, grp_zero]; simp [norm]; unfold BASE at *; omega
      · have h2 := ih (n / BASE) (by unfold BASE; omega)
        unfold norm at *
        cases hh : grp (n / BASE) with
        | nil => rw [grp_eq_nil] at hh; omega
        | cons a t => rw [hh] at h2; simpa [List.getLast?_cons_cons] using h2
theorem grp_of (l : List Nat) (hs : small l) (hn : norm l) : grp (gv l) = l := by
  induction l with
  | nil => rfl
  | cons g l ih =>
    have hg : g < BASE := hs g (by simp)
    have hs' : small l := fun x hx => hs x (by simp [hx])
    by_cases hl : l = []
    · subst hl
      simp only [norm, List.getLast?_singleton, ne_eq, Option.some.injEq] at hn
      simp only [gv]
      rw [grp_pos _ (by unfold BASE at *; omega)]
      unfold BASE at *
      rw [show (g + 1000000000 * 0) / 1000000000 = 0 by omega, show (g + 1000000000 * 0) % 1000000000 = g by omega]; rfl
    · have hn' : norm l := by
        unfold norm at *
        cases l with
        | nil => simp at hl
        | cons a t => simpa [List.getLast?_cons_cons] using hn
      have ih' := ih hs' hn'
      have h0 : gv l ≠ 0 := by
        intro e
        rw [e, grp_zero] at ih'
        exact hl ih'.symm
      simp only [gv]
      rw [grp_pos _ (by unfold BASE at *; omega)]
      unfold BASE at *
      rw [show (g + 1000000000 * gv l) / 1000000000 = gv l by omega, show (g + 1000000000 * gv l) % 1000000000 = g by omega, ih']
theorem gv_append (l m : List Nat) : gv (l ++ m) = gv l + BASE ^ l.length * gv m := by
  induction l with
  | nil => simp [gv]
  | cons g l ih =>
    simp only [List.cons_append, gv, ih, List.length_cons, Nat.pow_succ, Nat.mul_add]
    have : BASE * (BASE ^ l.length * gv m) = BASE ^ l.length * BASE * gv m := by rw [← Nat.mul_assoc, Nat.mul_comm BASE]
    omega
theorem gv_snoc (l : List Nat) (x : Nat) : gv (l ++ [x]) = gv l + BASE ^ l.length * x := by rw [gv_append]; simp [gv]
theorem gv_lt (l : List Nat) (h : small l) : gv l < BASE ^ l.length := by
  induction l with
  | nil => simp [gv]
  | cons g l ih =>
    have h1 := ih (fun x hx => h x (by simp [hx]))
    have h2 : g < BASE := h g (by simp)
    simp only [gv, List.length_cons, Nat.pow_succ]
    have h3 : BASE * (gv l + 1) ≤ BASE * BASE ^ l.length := Nat.mul_le_mul_left _ h1
    rw [Nat.mul_comm BASE (BASE ^ l.length)] at h3
    rw [Nat.mul_add] at h3
    omega
theorem gv_ge (l : List Nat) (h : norm l) (hl : l ≠ []) : BASE ^ (l.length - 1) ≤ gv l := by
  rcases List.eq_nil_or_concat l with rfl | ⟨m, b, rfl⟩
  · exact absurd rfl hl
  · simp only [List.concat_eq_append] at *
    rw [gv_snoc]
    simp [norm] at h
    have : BASE ^ m.length * 1 ≤ BASE ^ m.length * b := Nat.mul_le_mul_left _ (by omega)
    simp
    omega
theorem cutZ_snoc_zero (l : List Nat) : cutZ (l ++ [0]) = cutZ l := by simp [cutZ]
theorem cutZ_snoc (l : List Nat) (x : Nat) (h : x ≠ 0) : cutZ (l ++ [x]) = l ++ [x] := by simp [cutZ, h]
theorem cutZ_nil : cutZ [] = [] := rfl
theorem gv_cutZ (l : List Nat) : gv (cutZ l) = gv l := by
  obtain ⟨k, hk⟩ : ∃ k, k = l.length := ⟨_, rfl⟩
  induction k generalizing l with
  | zero => have : l = [] := List.eq_nil_of_length_eq_zero hk.symm
            subst this; rfl
  | succ k ih =>
    rcases List.eq_nil_or_concat l with rfl | ⟨m, b, rfl⟩
    · rfl
    · simp only [List.concat_eq_append] at *
      by_cases hb : b = 0
      · subst hb; rw [cutZ_snoc_zero, ih m (by simp at hk; omega), gv_snoc]; simp
      · rw [cutZ_snoc _ _ hb]
theorem cutZ_norm (l : List Nat) : norm (cutZ l) := by
  obtain ⟨k, hk⟩ : ∃ k, k = l.length := ⟨_, rfl⟩
  induction k generalizing l with
  | zero => have : l = [] := List.eq_nil_of_length_eq_zero hk.symm
            subst this; simp [norm, cutZ]
  | succ k ih =>
    rcases List.eq_nil_or_concat l with rfl | ⟨m, b, rfl⟩
    · simp [norm, cutZ]
    · simp only [List.concat_eq_append] at *
      by_cases hb : b = 0
      · subst hb; rw [cutZ_snoc_zero]; exact ih m (by simp at hk; omega)
      · rw [cutZ_snoc _ _ hb]; simp [norm, hb]
theorem cutZ_small (l : List Nat) (h : small l) : small (cutZ l) := by
  intro x hx
  apply h
  unfold cutZ at hx
  rw [List.mem_reverse] at hx
  have := (List.dropWhile_sublist (· == 0) (l := l.reverse)).subset hx
  simpa using this
theorem cutZ_eq (l : List Nat) (h : small l) : cutZ l = grp (gv l) := by
  rw [← gv_cutZ l, grp_of _ (cutZ_small l h) (cutZ_norm l)]
theorem cutZ_of_norm (l : List Nat) (h : norm l) : cutZ l = l := by
  rcases List.eq_nil_or_concat l with rfl | ⟨m, b, rfl⟩
  · rfl
  · simp only [List.concat_eq_append] at *
    apply cutZ_snoc; simpa [norm] using h
theorem cutZ_grp (n : Nat) : cutZ (grp n) = grp n := cutZ_of_norm _ (grp_norm n)
theorem grp_len_le (n k : Nat) (h : n < BASE ^ k) : (grp n).length ≤ k := by
  by_cases h0 : grp n = []
  · simp [h0]
  · have h1 := gv_ge _ (grp_norm n) h0
    rw [gv_grp] at h1
    rcases Nat.lt_or_ge k (grp n).length with h2 | h2
    · have := Nat.pow_le_pow_right (n := BASE) (by unfold BASE; omega) (show k ≤ (grp n).length - 1 by omega)
      omega
    · exact h2
theorem lt_grp_len (n : Nat) : n < BASE ^ (grp n).length := by have := gv_lt _ (grp_small n); rwa [gv_grp] at this
theorem grp_len_lt (m n : Nat) (h : (grp m).length < (grp n).length) : m < n := by
  rcases Nat.lt_or_ge m n with h1 | h1
  · exact h1
  · have := grp_len_le n _ (Nat.lt_of_le_of_lt h1 (lt_grp_len m)); omega
theorem grp_len_mono (m n : Nat) (h : m ≤ n) : (grp m).length ≤ (grp n).length := grp_len_le _ _ (Nat.lt_of_le_of_lt h (lt_grp_len n))
theorem grp_inj {m n : Nat} (h : grp m = grp n) : m = n := by rw [← gv_grp m, h, gv_grp]
theorem small_append {l m : List Nat} (h : small l) (k : small m) : small (l ++ m) := fun x hx => by
  rcases List.mem_append.1 hx with h1 | h1
  · exact h x h1
  · exact k x h1
theorem small_take {l : List Nat} (h : small l) (k : Nat) : small (l.take k) := fun x hx => h x (List.mem_of_mem_take hx)
theorem small_drop {l : List Nat} (h : small l) (k : Nat) : small (l.drop k) := fun x hx => h x (List.mem_of_mem_drop hx)
theorem gv_split (l : List Nat) (k : Nat) (h : k ≤ l.length) : gv l = gv (l.take k) + BASE ^ k * gv (l.drop k) := by
  have := gv_append (l.take k) (l.drop k)
  rw [List.take_append_drop] at this
  rw [this, List.length_take, Nat.min_eq_left h]
theorem gv_take_succ (l : List Nat) (k : Nat) (h : k < l.length) : gv (l.take (k + 1)) = gv (l.take k) + BASE ^ k * l[k] := by
  rw [List.take_succ_eq_append_getElem h, gv_snoc, List.length_take, Nat.min_eq_left (by omega)]
theorem gv_drop (l : List Nat) (k : Nat) (h : k < l.length) : gv (l.drop k) = l[k] + BASE * gv (l.drop (k + 1)) := by
  rw [List.drop_eq_getElem_cons h, gv]

end Num
end Go.Proofs.YtjhafnnfkaejgaaGreatDoor
