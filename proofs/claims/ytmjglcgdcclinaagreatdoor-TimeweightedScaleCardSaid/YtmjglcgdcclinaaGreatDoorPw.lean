/- Plain: the value of payments, the changes of their signs, the root. No program in sight. -/
import Derived.Test.YtmjglcgdcclinaaGreatDoorBd
namespace Go.Proofs.YtmjglcgdcclinaaGreatDoor
open Num
/-- period and amount -/
abbrev PZ := Int × Int
/-- the value of payments, as it is computed: what there is, the period, the payments -/
def hv (x : Rat) : Rat → Int → List PZ → Rat
  | s, _, [] => s
  | s, a, p :: r => hv x (s * x ^ (p.1 - a).toNat + p.2) p.1 r
def valQ (x : Rat) : List PZ → Rat
  | [] => 0
  | p :: r => hv x 0 p.1 (p :: r)
/-- the sums of the periods -/
def grpL : Int → List PZ → List PZ
  | _, [] => []
  | s, p :: r => if r.head?.map (·.1) = some p.1 then grpL (s + p.2) r else (p.1, s + p.2) :: grpL 0 r
/-- the sums that are not 0 -/
def sumsL : Int → List PZ → List Int
  | _, [] => []
  | s, p :: r => if r.head?.map (·.1) = some p.1 then sumsL (s + p.2) r else if s + p.2 = 0 then sumsL 0 r else (s + p.2) :: sumsL 0 r
/-- how often signs change -/
def chL : Int → List Int → Nat
  | _, [] => 0
  | a, c :: r => (if cmpZ c 0 = a then 0 else 1) + chL (cmpZ c 0) r
def chN : List Int → Nat
  | [] => 0
  | c :: r => chL (cmpZ c 0) r
def sg1 : List Int → Int
  | [] => 0
  | c :: _ => cmpZ c 0
/-- periods that do not decrease -/
def UpL : Int → List PZ → Prop
  | _, [] => True
  | a, p :: r => a ≤ p.1 ∧ UpL p.1 r
def UpS : Int → List PZ → Prop
  | _, [] => True
  | a, p :: r => a < p.1 ∧ UpS p.1 r

theorem sumsL_grp : ∀ (l : List PZ) (s : Int), sumsL s l = ((grpL s l).map (·.2)).filter (fun c => decide (c ≠ 0))
  | [], s => rfl
  | p :: r, s => by
    unfold sumsL grpL
    by_cases h : r.head?.map (·.1) = some p.1
    · rw [if_pos h, if_pos h]; exact sumsL_grp r _
    · rw [if_neg h, if_neg h, List.map_cons, List.filter_cons]
      by_cases h0 : s + p.2 = 0
      · rw [if_pos h0, if_neg (by simp [h0])]; exact sumsL_grp r 0
      · rw [if_neg h0, if_pos (by simp [h0])]; rw [sumsL_grp r 0]
theorem grp_head : ∀ (l : List PZ) (s : Int) (p : PZ), l.head? = some p → ∃ c g, grpL s l = (p.1, c) :: g
  | [], s, p, h => by cases h
  | q :: r, s, p, h => by
    simp only [List.head?_cons, Option.some.injEq] at h
    subst h
    unfold grpL
    by_cases h : r.head?.map (·.1) = some q.1
    · rw [if_pos h]
      cases r with
      | nil => cases h
      | cons u t =>
        obtain ⟨c, g, e⟩ := grp_head (u :: t) (s + q.2) u rfl
        rw [e]
        simp only [List.head?_cons, Option.map_some, Option.some.injEq] at h
        exact ⟨c, g, by rw [h]⟩
    · rw [if_neg h]; exact ⟨_, _, rfl⟩
theorem hv_grp (x : Rat) : ∀ (l : List PZ), (∀ (T : Rat) (s : Int) (a : Int) (p : PZ), l.head? = some p → p.1 = a → hv x (T + s) a l = hv x T a (grpL s l)) ∧ (∀ (U : Rat) (a : Int), hv x U a l = hv x U a (grpL 0 l))
  | [] => ⟨(fun T s a p h => by cases h), fun U a => rfl⟩
  | q :: r => by
    have ih := hv_grp x r
    have hA : ∀ (T : Rat) (s : Int) (a : Int) (p : PZ), (q :: r).head? = some p → p.1 = a → hv x (T + s) a (q :: r) = hv x T a (grpL s (q :: r)) := by
      intro T s a p hp ha
      simp only [List.head?_cons, Option.some.injEq] at hp
      subst hp
      subst ha
      have e1 : hv x (T + s) q.1 (q :: r) = hv x (T + ((s + q.2 : Int) : Rat)) q.1 r := by
        show hv x ((T + s) * x ^ (q.1 - q.1).toNat + q.2) q.1 r = _
        rw [Int.sub_self, Int.toNat_zero, Rat.pow_zero, Rat.intCast_add]
        congr 1
        grind
      rw [e1]
      unfold grpL
      by_cases h : r.head?.map (·.1) = some q.1
      · rw [if_pos h]
        cases r with
        | nil => cases h
        | cons u t =>
          simp only [List.head?_cons, Option.map_some, Option.some.injEq] at h
          exact ih.1 T (s + q.2) q.1 u rfl h
      · rw [if_neg h]
        show _ = hv x (T * x ^ (q.1 - q.1).toNat + ((s + q.2 : Int) : Rat)) q.1 (grpL 0 r)
        rw [Int.sub_self, Int.toNat_zero, Rat.pow_zero, Rat.mul_one]
        exact ih.2 _ _
    refine ⟨hA, fun U a => ?_⟩
    have h1 := hA (U * x ^ (q.1 - a).toNat) 0 q.1 q rfl rfl
    obtain ⟨c, g, e⟩ := grp_head (q :: r) 0 q rfl
    rw [e] at h1 ⊢
    show hv x (U * x ^ (q.1 - a).toNat + q.2) q.1 r = hv x (U * x ^ (q.1 - a).toNat + c) q.1 g
    have h2 : hv x (U * x ^ (q.1 - a).toNat + ((0 : Int) : Rat)) q.1 (q :: r) = hv x (U * x ^ (q.1 - a).toNat + q.2) q.1 r := by
      show hv x ((U * x ^ (q.1 - a).toNat + ((0 : Int) : Rat)) * x ^ (q.1 - q.1).toNat + q.2) q.1 r = _
      rw [Int.sub_self, Int.toNat_zero, Rat.pow_zero]
      congr 1
      have : ((0 : Int) : Rat) = 0 := rfl
      grind
    rw [← h2, h1]
    show hv x (U * x ^ (q.1 - a).toNat * x ^ (q.1 - q.1).toNat + c) q.1 g = _
    rw [Int.sub_self, Int.toNat_zero, Rat.pow_zero, Rat.mul_one]
theorem val_grp (x : Rat) (l : List PZ) : valQ x l = valQ x (grpL 0 l) := by
  cases l with
  | nil => rfl
  | cons p r =>
    obtain ⟨c, g, e⟩ := grp_head (p :: r) 0 p rfl
    have h := (hv_grp x (p :: r)).2 0 p.1
    rw [e] at h ⊢
    exact h
theorem grp_up : ∀ (l : List PZ) (s a : Int), UpL a l → (∀ p, l.head? = some p → a < p.1) → UpS a (grpL s l)
  | [], s, a, _, _ => trivial
  | p :: r, s, a, h, h2 => by
    have h3 := h2 p rfl
    unfold grpL
    by_cases hh : r.head?.map (·.1) = some p.1
    · rw [if_pos hh]
      cases r with
      | nil => cases hh
      | cons u t =>
        simp only [List.head?_cons, Option.map_some, Option.some.injEq] at hh
        have h4 := h.2
        unfold UpL at h4
        exact grp_up (u :: t) _ a ⟨by omega, h4.2⟩ (fun q hq => by simp only [List.head?_cons, Option.some.injEq] at hq; subst hq; omega)
    · rw [if_neg hh]
      refine ⟨h3, grp_up r 0 p.1 h.2 (fun q hq => ?_)⟩
      cases r with
      | nil => cases hq
      | cons u t =>
        simp only [List.head?_cons, Option.some.injEq] at hq
        subst hq
        simp only [List.head?_cons, Option.map_some, Option.some.injEq] at hh
        have := h.2.1
        omega
theorem pow_pos' {x : Rat} (h : 0 < x) (n : Nat) : 0 < x ^ n := Rat.pow_pos h
theorem pow_le' {x y : Rat} (h : 0 < x) (h2 : x ≤ y) : ∀ n : Nat, x ^ n ≤ y ^ n
  | 0 => by rw [Rat.pow_zero, Rat.pow_zero]; exact Rat.le_refl
  | n + 1 => by
    rw [Rat.pow_succ, Rat.pow_succ]
    have ih := pow_le' h h2 n
    have h3 := pow_pos' h n
    have a1 : x ^ n * x ≤ x ^ n * y := Rat.mul_le_mul_of_nonneg_left h2 (Rat.le_of_lt h3)
    have a2 : x ^ n * y ≤ y ^ n * y := Rat.mul_le_mul_of_nonneg_right ih (by grind)
    grind
theorem pow_lt' {x y : Rat} (h : 0 < x) (h2 : x < y) {n : Nat} (hn : 0 < n) : x ^ n < y ^ n := by
  obtain ⟨k, rfl⟩ : ∃ k, n = k + 1 := ⟨n - 1, by omega⟩
  rw [Rat.pow_succ, Rat.pow_succ]
  have ih := pow_le' h (Rat.le_of_lt h2) k
  have h3 := pow_pos' h k
  have a1 : x ^ k * x < x ^ k * y := (Rat.mul_lt_mul_left h3).2 h2
  have a2 : x ^ k * y ≤ y ^ k * y := Rat.mul_le_mul_of_nonneg_right ih (by grind)
  grind
theorem pow_ge1 {x : Rat} (h : 1 ≤ x) {n : Nat} (hn : 0 < n) : x ≤ x ^ n := by
  obtain ⟨k, rfl⟩ : ∃ k, n = k + 1 := ⟨n - 1, by omega⟩
  have h1 := pow_le' (x := 1) (y := x) (by decide) h k
  have e1 : ∀ k : Nat, (1 : Rat) ^ k = 1 := fun k => by
    induction k with
    | zero => rw [Rat.pow_zero]
    | succ k ih => rw [Rat.pow_succ, ih, Rat.mul_one]
  rw [e1] at h1
  rw [Rat.pow_succ]
  have : 1 * x ≤ x ^ k * x := Rat.mul_le_mul_of_nonneg_right h1 (by grind)
  grind
/-- the sign s times z -/
def sq (s : Int) (q : Rat) : Rat := (s : Rat) * q
theorem sq_add (s : Int) (p q : Rat) : sq s (p + q) = sq s p + sq s q := by unfold sq; grind
theorem sq_mul (s : Int) (p q : Rat) : sq s (p * q) = sq s p * q := by unfold sq; grind
theorem sq_int (s c : Int) : sq s (c : Rat) = ((s * c : Int) : Rat) := by unfold sq; rw [Rat.intCast_mul]
theorem phase2 (s : Int) {x y : Rat} (hx : 0 < x) (hxy : x < y) : ∀ (l : List PZ) (a : Int) (t t' : Rat), UpL a l → (∀ p ∈ l, s * p.2 ≤ 0) → (0 ≤ sq s t → sq s t < sq s t') → 0 ≤ sq s (hv x t a l) → sq s (hv x t a l) < sq s (hv y t' a l)
  | [], a, t, t', _, _, h, h0 => h h0
  | p :: r, a, t, t', hu, hs, h, h0 => by
    refine phase2 s hx hxy r p.1 _ _ hu.2 (fun q hq => hs q (List.mem_cons_of_mem _ hq)) (fun h1 => ?_) h0
    have hp := hs p (List.mem_cons_self ..)
    have hp2 : ((s * p.2 : Int) : Rat) ≤ ((0 : Int) : Rat) := Rat.intCast_le_intCast.2 hp
    rw [sq_add, sq_mul, sq_int] at h1 ⊢
    rw [sq_add, sq_mul, sq_int]
    have k1 := pow_pos' hx (p.1 - a).toNat
    have k2 := pow_le' hx (Rat.le_of_lt hxy) (p.1 - a).toNat
    have z : ((0 : Int) : Rat) = 0 := rfl
    rw [z] at hp2
    generalize ((s * p.2 : Int) : Rat) = c at *
    generalize sq s t = T at *
    generalize sq s t' = T' at *
    generalize x ^ (p.1 - a).toNat = X at *
    generalize y ^ (p.1 - a).toNat = Y at *
    have hT : 0 ≤ T := by
      have : 0 ≤ T * X := by grind
      by_cases hT : 0 ≤ T
      · exact hT
      · have : T * X < 0 * X := (Rat.mul_lt_mul_right k1).2 (by grind)
        grind
    have hT' := h hT
    have b1 : T * X < T' * X := (Rat.mul_lt_mul_right k1).2 hT'
    have b2 : T' * X ≤ T' * Y := Rat.mul_le_mul_of_nonneg_left k2 (by grind)
    grind
theorem cmpZ_cases (c : Int) : (c < 0 ∧ cmpZ c 0 = -1) ∨ (c = 0 ∧ cmpZ c 0 = 0) ∨ (0 < c ∧ cmpZ c 0 = 1) := by
  unfold cmpZ
  by_cases h : c < 0
  · left; exact ⟨h, if_pos h⟩
  · by_cases h2 : 0 < c
    · right; right; exact ⟨h2, by rw [if_neg h, if_pos h2]⟩
    · right; left; exact ⟨by omega, by rw [if_neg h, if_neg h2]⟩
/-- the sums of a grouped list that are not 0 -/
def nz (l : List PZ) : List Int := (l.map (·.2)).filter (fun c => decide (c ≠ 0))
theorem nz_cons0 (p : PZ) (r : List PZ) (h : p.2 = 0) : nz (p :: r) = nz r := by unfold nz; rw [List.map_cons, List.filter_cons, if_neg (by simp [h])]
theorem nz_cons1 (p : PZ) (r : List PZ) (h : p.2 ≠ 0) : nz (p :: r) = p.2 :: nz r := by unfold nz; rw [List.map_cons, List.filter_cons, if_pos (by simp [h])]
theorem ch0 (s : Int) (hs : s = 1 ∨ s = -1) : ∀ l : List PZ, chL s (nz l) = 0 → ∀ p ∈ l, 0 ≤ s * p.2
  | [], _, p, hp => by cases hp
  | q :: r, h, p, hp => by
    by_cases h0 : q.2 = 0
    · rw [nz_cons0 q r h0] at h
      rcases List.mem_cons.1 hp with rfl | hp
      · rw [h0]; omega
      · exact ch0 s hs r h p hp
    · rw [nz_cons1 q r h0] at h
      unfold chL at h
      by_cases e : cmpZ q.2 0 = s
      · rw [if_pos e, e] at h
        rcases List.mem_cons.1 hp with rfl | hp
        · rcases cmpZ_cases p.2 with h1 | h1 | h1 <;> rcases hs with rfl | rfl <;> omega
        · exact ch0 s hs r (by omega) p hp
      · rw [if_neg e] at h; omega
theorem upS_L : ∀ (l : List PZ) (a : Int), UpS a l → UpL a l
  | [], _, _ => trivial
  | p :: r, a, h => ⟨by have := h.1; omega, upS_L r p.1 h.2⟩
theorem phase1 (s : Int) (hs : s = 1 ∨ s = -1) {x y : Rat} (hx : 0 < x) (hxy : x < y) : ∀ (l : List PZ) (a : Int) (t t' : Rat), UpS a l → chL s (nz l) = 1 → 0 < sq s t → sq s t ≤ sq s t' → 0 ≤ sq s (hv x t a l) → sq s (hv x t a l) < sq s (hv y t' a l)
  | [], a, t, t', _, h, _, _, _ => by unfold nz at h; simp [chL] at h
  | p :: r, a, t, t', hu, hc, h1, h2, h0 => by
    have k1 := pow_pos' hx (p.1 - a).toNat
    have k2 := pow_lt' hx hxy (n := (p.1 - a).toNat) (by have := hu.1; omega)
    have e1 : sq s (t * x ^ (p.1 - a).toNat + p.2) = sq s t * x ^ (p.1 - a).toNat + ((s * p.2 : Int) : Rat) := by rw [sq_add, sq_mul, sq_int]
    have e2 : sq s (t' * y ^ (p.1 - a).toNat + p.2) = sq s t' * y ^ (p.1 - a).toNat + ((s * p.2 : Int) : Rat) := by rw [sq_add, sq_mul, sq_int]
    have b1 : sq s t * x ^ (p.1 - a).toNat < sq s t * y ^ (p.1 - a).toNat := (Rat.mul_lt_mul_left h1).2 k2
    have b2 : sq s t * y ^ (p.1 - a).toNat ≤ sq s t' * y ^ (p.1 - a).toNat := Rat.mul_le_mul_of_nonneg_right h2 (by grind)
    have b3 : 0 < sq s t * x ^ (p.1 - a).toNat := Rat.mul_pos h1 k1
    have keep : chL s (nz r) = 1 → 0 ≤ s * p.2 → sq s (hv x t a (p :: r)) < sq s (hv y t' a (p :: r)) := fun hc hp => by
      have hp2 : ((0 : Int) : Rat) ≤ ((s * p.2 : Int) : Rat) := Rat.intCast_le_intCast.2 hp
      have z : ((0 : Int) : Rat) = 0 := rfl
      exact phase1 s hs hx hxy r p.1 _ _ hu.2 hc (by rw [e1]; grind) (by rw [e1, e2]; grind) h0
    by_cases hz : p.2 = 0
    · rw [nz_cons0 p r hz] at hc
      exact keep hc (by rw [hz]; omega)
    · rw [nz_cons1 p r hz] at hc
      unfold chL at hc
      by_cases e : cmpZ p.2 0 = s
      · rw [if_pos e, e] at hc
        refine keep (by omega) ?_
        rcases cmpZ_cases p.2 with g | g | g <;> rcases hs with rfl | rfl <;> omega
      · rw [if_neg e] at hc
        have em : cmpZ p.2 0 = -s := by rcases cmpZ_cases p.2 with g | g | g <;> rcases hs with rfl | rfl <;> omega
        rw [em] at hc
        refine phase2 s hx hxy r p.1 _ _ (upS_L _ _ hu.2) (fun q hq => ?_) (fun _ => by rw [e1, e2]; grind) h0
        have := ch0 (-s) (by omega) r (by omega) q hq
        rw [Int.neg_mul] at this
        omega
theorem phase0 {x y : Rat} (hx : 0 < x) (hxy : x < y) : ∀ (l : List PZ) (a : Int), UpS a l → chN (nz l) = 1 → 0 ≤ sq (sg1 (nz l)) (hv x 0 a l) → sq (sg1 (nz l)) (hv x 0 a l) < sq (sg1 (nz l)) (hv y 0 a l)
  | [], a, _, h, _ => by simp [nz, chN] at h
  | p :: r, a, hu, hc, h0 => by
    by_cases hz : p.2 = 0
    · rw [nz_cons0 p r hz] at hc h0 ⊢
      have e : ∀ z : Rat, hv z 0 a (p :: r) = hv z 0 p.1 r := fun z => by
        show hv z (0 * z ^ (p.1 - a).toNat + p.2) p.1 r = _
        rw [hz]; congr 1
        have z : ((0 : Int) : Rat) = 0 := rfl
        grind
      rw [e] at h0 ⊢
      rw [e]
      exact phase0 hx hxy r p.1 hu.2 hc h0
    · rw [nz_cons1 p r hz] at hc h0 ⊢
      unfold chN at hc
      unfold sg1 at h0 ⊢
      have hs : cmpZ p.2 0 = 1 ∨ cmpZ p.2 0 = -1 := by rcases cmpZ_cases p.2 with g | g | g <;> omega
      have e : ∀ z : Rat, hv z 0 a (p :: r) = hv z p.2 p.1 r := fun z => by
        show hv z (0 * z ^ (p.1 - a).toNat + p.2) p.1 r = _
        congr 1
        grind
      rw [e] at h0 ⊢
      rw [e]
      refine phase1 _ hs hx hxy r p.1 _ _ hu.2 hc ?_ Rat.le_refl h0
      rw [sq_int]
      have z : ((0 : Int) : Rat) = 0 := rfl
      rw [← z]
      refine Rat.intCast_lt_intCast.2 ?_
      rcases cmpZ_cases p.2 with g | g | g
      · rw [g.2]; omega
      · omega
      · rw [g.2]; omega
theorem sums_nz (l : List PZ) : sumsL 0 l = nz (grpL 0 l) := sumsL_grp l 0
theorem val_hv (x : Rat) (l : List PZ) (a : Int) : valQ x l = hv x 0 a l := by
  cases l with
  | nil => rfl
  | cons p r =>
    show hv x (0 * x ^ (p.1 - p.1).toNat + p.2) p.1 r = hv x (0 * x ^ (p.1 - a).toNat + p.2) p.1 r
    rw [Rat.zero_mul, Rat.zero_mul]
/-- beyond the root the value keeps its sign -/
theorem cross {x y : Rat} (hx : 0 < x) (hxy : x < y) (l : List PZ) (a : Int) (hu : UpL a l) (hc : chN (sumsL 0 l) = 1) (h0 : 0 ≤ sq (sg1 (sumsL 0 l)) (valQ x l)) : sq (sg1 (sumsL 0 l)) (valQ x l) < sq (sg1 (sumsL 0 l)) (valQ y l) := by
  rw [sums_nz] at *
  rw [val_grp x l] at *
  rw [val_grp y l]
  rw [val_hv x _ (a - 1)] at *
  rw [val_hv y _ (a - 1)]
  refine phase0 hx hxy _ _ (grp_up l 0 (a - 1) ?_ ?_) hc h0
  · cases l with
    | nil => trivial
    | cons p r => exact ⟨by have := hu.1; omega, hu.2⟩
  · intro p hp
    cases l with
    | nil => cases hp
    | cons q r => simp only [List.head?_cons, Option.some.injEq] at hp; subst hp; have := hu.1; omega
/-- the sum of what the amounts are without their signs -/
def absS : List PZ → Int
  | [] => 0
  | p :: r => p.2.natAbs + absS r
theorem absS_nn : ∀ l : List PZ, 0 ≤ absS l
  | [] => Int.le_refl _
  | p :: r => by have := absS_nn r; unfold absS; omega
theorem grp_abs : ∀ (l : List PZ) (s : Int), ∀ p ∈ grpL s l, (p.2.natAbs : Int) ≤ s.natAbs + absS l
  | [], s, p, h => by cases h
  | q :: r, s, p, h => by
    have hn := absS_nn r
    unfold grpL at h
    unfold absS
    split at h
    · have := grp_abs r _ p h; omega
    · rcases List.mem_cons.1 h with rfl | h
      · show ((s + q.2).natAbs : Int) ≤ _; omega
      · have := grp_abs r 0 p h; omega
theorem large1 (s : Int) (hs : s = 1 ∨ s = -1) {x : Rat} {B : Int} (hB : 0 ≤ B) (hx : ((1 + B : Int) : Rat) ≤ x) : ∀ (l : List PZ) (a : Int) (t : Rat), UpS a l → (∀ p ∈ l, (p.2.natAbs : Int) ≤ B) → 1 ≤ sq s t → 1 ≤ sq s (hv x t a l)
  | [], a, t, _, _, h => h
  | p :: r, a, t, hu, hb, h => by
    have o : ((1 : Int) : Rat) = 1 := rfl
    have hB' : ((0 : Int) : Rat) ≤ ((B : Int) : Rat) := Rat.intCast_le_intCast.2 hB
    have z : ((0 : Int) : Rat) = 0 := rfl
    rw [Rat.intCast_add] at hx
    refine large1 s hs hB (by rw [Rat.intCast_add]; exact hx) r p.1 _ hu.2 (fun q hq => hb q (List.mem_cons_of_mem _ hq)) ?_
    rw [sq_add, sq_mul, sq_int]
    have k1 := pow_ge1 (x := x) (by grind) (n := (p.1 - a).toNat) (by have := hu.1; omega)
    have k2 : ((-B : Int) : Rat) ≤ ((s * p.2 : Int) : Rat) := Rat.intCast_le_intCast.2 (by have := hb p (List.mem_cons_self ..); rcases hs with rfl | rfl <;> omega)
    rw [Rat.intCast_neg] at k2
    generalize x ^ (p.1 - a).toNat = X at *
    have k3 : 1 * X ≤ sq s t * X := Rat.mul_le_mul_of_nonneg_right h (by grind)
    grind
theorem large0 {x : Rat} {B : Int} (hB : 0 ≤ B) (hx : ((1 + B : Int) : Rat) ≤ x) : ∀ (l : List PZ) (a : Int), UpS a l → (∀ p ∈ l, (p.2.natAbs : Int) ≤ B) → nz l ≠ [] → 1 ≤ sq (sg1 (nz l)) (hv x 0 a l)
  | [], a, _, _, h => by simp [nz] at h
  | p :: r, a, hu, hb, h => by
    by_cases hz : p.2 = 0
    · rw [nz_cons0 p r hz] at h ⊢
      have e : ∀ z : Rat, hv z 0 a (p :: r) = hv z 0 p.1 r := fun z => by
        show hv z (0 * z ^ (p.1 - a).toNat + p.2) p.1 r = _
        rw [hz]; congr 1
        have z : ((0 : Int) : Rat) = 0 := rfl
        grind
      rw [e]
      exact large0 hB hx r p.1 hu.2 (fun q hq => hb q (List.mem_cons_of_mem _ hq)) h
    · rw [nz_cons1 p r hz]
      have e : hv x 0 a (p :: r) = hv x p.2 p.1 r := by
        show hv x (0 * x ^ (p.1 - a).toNat + p.2) p.1 r = _
        congr 1
        grind
      rw [e]
      show 1 ≤ sq (cmpZ p.2 0) _
      refine large1 _ (by rcases cmpZ_cases p.2 with g | g | g <;> omega) hB hx r p.1 _ hu.2 (fun q hq => hb q (List.mem_cons_of_mem _ hq)) ?_
      rw [sq_int]
      have o : ((1 : Int) : Rat) = 1 := rfl
      rw [← o]
      refine Rat.intCast_le_intCast.2 ?_
      rcases cmpZ_cases p.2 with g | g | g
      · rw [g.2]; omega
      · omega
      · rw [g.2]; omega
theorem upS_start (l : List PZ) (a : Int) (hu : UpL a l) : UpS (a - 1) (grpL 0 l) := by
  refine grp_up l 0 (a - 1) ?_ ?_
  · cases l with
    | nil => trivial
    | cons p r => exact ⟨by have := hu.1; omega, hu.2⟩
  · intro p hp
    cases l with
    | nil => cases hp
    | cons q r => simp only [List.head?_cons, Option.some.injEq] at hp; subst hp; have := hu.1; omega
/-- far above the value has the first sign -/
theorem large {x : Rat} (l : List PZ) (a : Int) (hu : UpL a l) (hc : sumsL 0 l ≠ []) (hx : ((1 + absS l : Int) : Rat) ≤ x) : 1 ≤ sq (sg1 (sumsL 0 l)) (valQ x l) := by
  rw [sums_nz] at *
  rw [val_grp x l, val_hv x _ (a - 1)]
  exact large0 (absS_nn l) hx _ _ (upS_start l a hu) (fun p hp => by have := grp_abs l 0 p hp; omega) hc
theorem top_of (Q : Int → Prop) (hd : ∀ z z', 1 ≤ z → z ≤ z' → Q z' → Q z) : ∀ M : Nat, (∀ z, (M : Int) ≤ z → 1 ≤ z → ¬ Q z) → ∃ z0 : Int, 0 ≤ z0 ∧ z0 ≤ M ∧ ∀ z, 1 ≤ z → (Q z ↔ z ≤ z0)
  | 0, h => ⟨0, Int.le_refl _, Int.le_refl _, fun z hz => ⟨fun hq => absurd hq (h z (by omega) hz), fun h2 => by omega⟩⟩
  | M + 1, h => by
    by_cases hq : Q M
    · by_cases hM : M = 0
      · subst hM
        exact ⟨0, Int.le_refl _, by omega, fun z hz => ⟨fun hq => absurd hq (h z (by omega) hz), fun h2 => by omega⟩⟩
      · refine ⟨M, by omega, by omega, fun z hz => ⟨fun h1 => ?_, fun h1 => hd z M hz h1 hq⟩⟩
        by_cases h2 : z ≤ M
        · exact h2
        · exact absurd h1 (h z (by omega) hz)
    · obtain ⟨z0, h1, h2, h3⟩ := top_of Q hd M (fun z hz hz1 h4 => by
        by_cases e : z = M
        · exact hq (e ▸ h4)
        · exact h z (by omega) hz1 h4)
      exact ⟨z0, h1, by omega, h3⟩
/-- where a number stands to the root -/
def placeQ (s : Int) (l : List PZ) (x : Rat) : Int := if x = 0 then -1 else s * cmpQ (valQ x l) 0
/-- the greatest number of units that is not greater than the root -/
structure Root (l : List PZ) (u z : Int) : Prop where
  nn : 0 ≤ z
  le : z ≤ (1 + absS l) * u
  iff : ∀ y, 1 ≤ y → (placeQ (sg1 (sumsL 0 l)) l (Rat.divInt y u) ≤ 0 ↔ y ≤ z)
theorem Root.uniq {l l' : List PZ} {u z z' : Int} (h : Root l u z) (h' : Root l' u z') (e : ∀ x : Rat, 0 < x → placeQ (sg1 (sumsL 0 l)) l x = placeQ (sg1 (sumsL 0 l')) l' x) (hu : 0 < u) : z = z' := by
  have hp : ∀ y : Int, 1 ≤ y → (0 : Rat) < Rat.divInt y u := fun y hy => by
    rw [Rat.divInt_eq_div, Rat.div_def]
    exact Rat.mul_pos (by simpa using (Rat.intCast_pos.2 (by omega : 0 < y))) (Rat.inv_pos.2 (by simpa using (Rat.intCast_pos.2 hu)))
  have a := h.nn
  have b := h'.nn
  apply Int.le_antisymm
  · by_cases h0 : z = 0
    · omega
    · have := (h'.iff z (by omega)).1
      rw [← e _ (hp z (by omega))] at this
      exact this ((h.iff z (by omega)).2 (Int.le_refl _))
  · by_cases h0 : z' = 0
    · omega
    · have := (h.iff z' (by omega)).1
      rw [e _ (hp z' (by omega))] at this
      exact this ((h'.iff z' (by omega)).2 (Int.le_refl _))
theorem sg1_cases {l : List PZ} (h : chN (sumsL 0 l) = 1) : sg1 (sumsL 0 l) = 1 ∨ sg1 (sumsL 0 l) = -1 := by
  rw [sums_nz] at *
  generalize grpL 0 l = g at *
  induction g with
  | nil => simp [nz, chN] at h
  | cons p r ih =>
    by_cases hz : p.2 = 0
    · rw [nz_cons0 p r hz] at h ⊢; exact ih h
    · rw [nz_cons1 p r hz] at h ⊢
      show cmpZ p.2 0 = 1 ∨ cmpZ p.2 0 = -1
      rcases cmpZ_cases p.2 with g | g | g <;> omega
theorem cmpQ_sq {s : Int} (hs : s = 1 ∨ s = -1) (q : Rat) : (s * cmpQ q 0 ≤ 0 ↔ sq s q ≤ 0) ∧ (0 ≤ s * cmpQ q 0 ↔ 0 ≤ sq s q) := by
  have e := cmpQ_if q 0
  unfold sq
  have o : ((1 : Int) : Rat) = 1 := rfl
  have o2 : ((-1 : Int) : Rat) = -1 := rfl
  rcases hs with rfl | rfl
  · rw [o, e]
    by_cases h1 : q < 0
    · rw [if_pos h1]; constructor <;> constructor <;> intro h <;> first | omega | grind
    · rw [if_neg h1]
      by_cases h2 : 0 < q
      · rw [if_pos h2]; constructor <;> constructor <;> intro h <;> first | omega | grind
      · rw [if_neg h2]; constructor <;> constructor <;> intro h <;> first | omega | grind
  · rw [o2, e]
    by_cases h1 : q < 0
    · rw [if_pos h1]; constructor <;> constructor <;> intro h <;> first | omega | grind
    · rw [if_neg h1]
      by_cases h2 : 0 < q
      · rw [if_pos h2]; constructor <;> constructor <;> intro h <;> first | omega | grind
      · rw [if_neg h2]; constructor <;> constructor <;> intro h <;> first | omega | grind
theorem divInt_pos {y u : Int} (hy : 1 ≤ y) (hu : 0 < u) : (0 : Rat) < Rat.divInt y u := by
  rw [Rat.divInt_eq_div, Rat.div_def]
  exact Rat.mul_pos (by simpa using (Rat.intCast_pos.2 (by omega : 0 < y))) (Rat.inv_pos.2 (by simpa using (Rat.intCast_pos.2 hu)))
theorem divInt_lt' {y z u : Int} (h : y < z) (hu : 0 < u) : Rat.divInt y u < Rat.divInt z u := by
  rw [Rat.divInt_eq_div, Rat.divInt_eq_div]
  have h1 : (y : Rat) < (z : Rat) := Rat.intCast_lt_intCast.2 h
  have h2 : (0 : Rat) < (u : Rat) := by simpa using (Rat.intCast_pos.2 hu)
  rw [Rat.div_def, Rat.div_def]
  exact (Rat.mul_lt_mul_right (Rat.inv_pos.2 h2)).2 h1
theorem place_sign {l : List PZ} (hc : chN (sumsL 0 l) = 1) {x : Rat} (hx : 0 < x) : (placeQ (sg1 (sumsL 0 l)) l x ≤ 0 ↔ sq (sg1 (sumsL 0 l)) (valQ x l) ≤ 0) ∧ (0 ≤ placeQ (sg1 (sumsL 0 l)) l x ↔ 0 ≤ sq (sg1 (sumsL 0 l)) (valQ x l)) := by
  unfold placeQ
  rw [if_neg (by grind)]
  exact cmpQ_sq (sg1_cases hc) _
theorem root_is (l : List PZ) (a u : Int) (hu : UpL a l) (hc : chN (sumsL 0 l) = 1) (h0 : 0 < u) : ∃ z, Root l u z := by
  have hne : sumsL 0 l ≠ [] := fun e => by rw [e] at hc; simp [chN] at hc
  obtain ⟨z0, h1, h2, h3⟩ := top_of (fun y => placeQ (sg1 (sumsL 0 l)) l (Rat.divInt y u) ≤ 0) (fun z z' hz hzz hq => by
    rw [(place_sign hc (divInt_pos hz h0)).1]
    rw [(place_sign hc (divInt_pos (by omega) h0)).1] at hq
    by_cases e : z = z'
    · rw [e]; exact hq
    · by_cases h4 : sq (sg1 (sumsL 0 l)) (valQ (Rat.divInt z u) l) ≤ 0
      · exact h4
      · have := cross (divInt_pos hz h0) (divInt_lt' (by omega : z < z') h0) l a hu hc (by grind)
        grind) (((1 + absS l) * u).toNat) (fun z hz h1 hq => by
    have hn := absS_nn l
    have hm : 0 ≤ (1 + absS l) * u := Int.mul_nonneg (by omega) (by omega)
    rw [(place_sign hc (divInt_pos h1 h0)).1] at hq
    have := large l a hu hne (x := Rat.divInt z u) (by
      rw [Rat.divInt_eq_div]
      have h2 : (0 : Rat) < (u : Rat) := by simpa using (Rat.intCast_pos.2 h0)
      have h3 : (((1 + absS l) * u : Int) : Rat) ≤ (z : Rat) := Rat.intCast_le_intCast.2 (by omega)
      rw [Rat.intCast_mul] at h3
      have h4 : (z : Rat) = z / u * u := (Rat.div_mul_cancel (by grind)).symm
      rw [h4] at h3
      exact Rat.le_of_mul_le_mul_right h3 h2)
    grind)
  have hn := absS_nn l
  have hm : 0 ≤ (1 + absS l) * u := Int.mul_nonneg (by omega) (by omega)
  exact ⟨z0, h1, by omega, h3⟩
theorem cmpQ_sq0 {s : Int} (hs : s = 1 ∨ s = -1) (q : Rat) : s * cmpQ q 0 = 0 ↔ q = 0 := by
  rw [cmpQ_if]
  by_cases h1 : q < 0
  · rw [if_pos h1]; constructor <;> intro h <;> first | grind | (rcases hs with rfl | rfl <;> omega)
  · rw [if_neg h1]
    by_cases h2 : 0 < q
    · rw [if_pos h2]; constructor <;> intro h <;> first | grind | (rcases hs with rfl | rfl <;> omega)
    · rw [if_neg h2]; constructor <;> intro h <;> first | grind | (rcases hs with rfl | rfl <;> omega)
def topZ (l : List PZ) (u z : Int) : Int := if placeQ (sg1 (sumsL 0 l)) l (Rat.divInt z u) = 0 then z else z + 1
theorem divInt_zero' (u : Int) : Rat.divInt 0 u = 0 := Rat.zero_divInt u
theorem place0 (s : Int) (l : List PZ) : placeQ s l 0 = -1 := by unfold placeQ; rw [if_pos rfl]
theorem Root.low {l : List PZ} {u z : Int} (h : Root l u z) : placeQ (sg1 (sumsL 0 l)) l (Rat.divInt z u) ≤ 0 := by
  have := h.nn
  by_cases h0 : z = 0
  · rw [h0, divInt_zero', place0]; decide
  · exact (h.iff z (by omega)).2 (Int.le_refl _)
theorem Root.next {l : List PZ} {u z : Int} (h : Root l u z) : 0 < placeQ (sg1 (sumsL 0 l)) l (Rat.divInt (z + 1) u) := by
  have := h.nn
  have h2 := h.iff (z + 1) (by omega)
  by_cases h3 : placeQ (sg1 (sumsL 0 l)) l (Rat.divInt (z + 1) u) ≤ 0
  · have := h2.1 h3; omega
  · omega
theorem Root.high {l : List PZ} {u z : Int} (h : Root l u z) : 0 ≤ placeQ (sg1 (sumsL 0 l)) l (Rat.divInt (topZ l u z) u) := by
  unfold topZ
  split
  · rename_i e; rw [e]; decide
  · have := h.next; omega
theorem Root.top_pos {l : List PZ} {u z : Int} (h : Root l u z) : 1 ≤ topZ l u z := by
  have := h.nn
  unfold topZ
  split
  · rename_i e
    by_cases h0 : z = 0
    · rw [h0, divInt_zero', place0] at e; cases e
    · omega
  · omega
theorem divInt_ten {y u k : Int} (hk : k ≠ 0) : Rat.divInt (k * y) (k * u) = Rat.divInt y u := Rat.divInt_mul_left hk
theorem divInt_le' {y z u : Int} (h : y ≤ z) (hu : 0 < u) : Rat.divInt y u ≤ Rat.divInt z u := by
  by_cases e : y = z
  · rw [e]; exact Rat.le_refl
  · exact Rat.le_of_lt (divInt_lt' (by omega) hu)
theorem Root.ten {l : List PZ} {a u z z' : Int} (hl : UpL a l) (hc : chN (sumsL 0 l) = 1) (h0 : 0 < u) (h : Root l u z) (h' : Root l (10 * u) z') : 10 * z ≤ z' ∧ topZ l (10 * u) z' ≤ 10 * topZ l u z := by
  have n0 := h.nn
  have n1 := h'.nn
  have l1 : 10 * z ≤ z' := by
    by_cases hz : z = 0
    · omega
    · refine (h'.iff (10 * z) (by omega)).1 ?_
      rw [divInt_ten (by decide)]; exact h.low
  have l2 : z' < 10 * (z + 1) := by
    by_cases hh : 10 * (z + 1) ≤ z'
    · have := (h'.iff (10 * (z + 1)) (by omega)).2 hh
      rw [divInt_ten (by decide)] at this
      have := h.next
      omega
    · omega
  refine ⟨l1, ?_⟩
  by_cases e : placeQ (sg1 (sumsL 0 l)) l (Rat.divInt z u) = 0
  · have t1 : topZ l u z = z := by unfold topZ; rw [if_pos e]
    have hz : 1 ≤ z := by have := h.top_pos; omega
    have l3 : z' = 10 * z := by
      by_cases hh : 10 * z + 1 ≤ z'
      · have p1 := (h'.iff (10 * z + 1) (by omega)).2 hh
        have p0 : 0 < Rat.divInt z u := divInt_pos hz h0
        have p2 : Rat.divInt z u < Rat.divInt (10 * z + 1) (10 * u) := by
          rw [← divInt_ten (y := z) (u := u) (k := 10) (by decide)]; exact divInt_lt' (by omega) (by omega)
        have p3 := cross p0 p2 l a hl hc (((place_sign hc p0).2).1 (by omega))
        have p4 := ((place_sign hc (show 0 < Rat.divInt (10 * z + 1) (10 * u) by grind)).1).1 p1
        have p5 := ((place_sign hc p0).2).1 (by omega)
        grind
      · omega
    have t2 : topZ l (10 * u) z' = z' := by unfold topZ; rw [if_pos (by rw [l3, divInt_ten (by decide)]; exact e)]
    omega
  · have t1 : topZ l u z = z + 1 := by unfold topZ; rw [if_neg e]
    have t2 : topZ l (10 * u) z' ≤ z' + 1 := by unfold topZ; split <;> omega
    omega
theorem sign_of_sq {s : Int} (hs : s = 1 ∨ s = -1) (q : Rat) : (sq s q < 0 → cmpQ q 0 = -s) ∧ (0 < sq s q → cmpQ q 0 = s) := by
  have e := cmpQ_if q 0
  unfold sq
  have o : ((1 : Int) : Rat) = 1 := rfl
  have o2 : ((-1 : Int) : Rat) = -1 := rfl
  rcases hs with rfl | rfl
  · rw [o, e]
    refine ⟨fun h => ?_, fun h => ?_⟩
    · rw [if_pos (by grind)]
    · rw [if_neg (by grind), if_pos (by grind)]
  · rw [o2, e]
    refine ⟨fun h => ?_, fun h => ?_⟩
    · rw [if_neg (by grind), if_pos (by grind)]; decide
    · rw [if_pos (by grind)]
theorem Root.below {l : List PZ} {a u z : Int} (hl : UpL a l) (hc : chN (sumsL 0 l) = 1) (h0 : 0 < u) (h : Root l u z) {x : Rat} (hx : 0 < x) (hlt : x < Rat.divInt z u) : cmpQ (valQ x l) 0 = -sg1 (sumsL 0 l) := by
  refine (sign_of_sq (sg1_cases hc) _).1 ?_
  have hz : 1 ≤ z := by
    have := h.nn
    by_cases e : z = 0
    · rw [e, divInt_zero'] at hlt; grind
    · omega
  have p1 := ((place_sign hc (divInt_pos hz h0)).1).1 h.low
  by_cases hh : 0 ≤ sq (sg1 (sumsL 0 l)) (valQ x l)
  · have := cross hx hlt l a hl hc hh
    grind
  · grind
theorem Root.above {l : List PZ} {a u z : Int} (hl : UpL a l) (hc : chN (sumsL 0 l) = 1) (h0 : 0 < u) (h : Root l u z) {x : Rat} (hlt : Rat.divInt (topZ l u z) u < x) : cmpQ (valQ x l) 0 = sg1 (sumsL 0 l) := by
  refine (sign_of_sq (sg1_cases hc) _).2 ?_
  have hp := divInt_pos h.top_pos h0
  have p1 := ((place_sign hc hp).2).1 h.high
  have := cross hp hlt l a hl hc p1
  grind
/-! the first and the last sign -/
def lastS : Int → List Int → Int
  | a, [] => a
  | _, c :: r => lastS (cmpZ c 0) r
theorem last0 : ∀ (l : List Int) (s : Int), chL s l = 0 → lastS s l = s
  | [], s, _ => rfl
  | c :: r, s, h => by
    unfold chL at h
    by_cases e : cmpZ c 0 = s
    · rw [if_pos e] at h
      show lastS (cmpZ c 0) r = s
      rw [last0 r _ (by omega), e]
    · rw [if_neg e] at h; omega
theorem last1 : ∀ (l : List Int) (s : Int), (s = 1 ∨ s = -1) → (∀ c ∈ l, c ≠ 0) → chL s l = 1 → lastS s l = -s
  | [], s, _, _, h => by simp [chL] at h
  | c :: r, s, hs, hn, h => by
    unfold chL at h
    show lastS (cmpZ c 0) r = -s
    by_cases e : cmpZ c 0 = s
    · rw [if_pos e, e] at h
      rw [e]
      exact last1 r s hs (fun d hd => hn d (List.mem_cons_of_mem _ hd)) (by omega)
    · rw [if_neg e] at h
      rw [last0 r _ (by omega)]
      have := hn c (List.mem_cons_self ..)
      rcases cmpZ_cases c with g | g | g <;> rcases hs with rfl | rfl <;> omega
theorem nz_ne (l : List PZ) : ∀ c ∈ nz l, c ≠ 0 := fun c hc => by unfold nz at hc; simpa using (List.mem_filter.1 hc).2
theorem last_first {l : List PZ} (h : chN (sumsL 0 l) = 1) : lastS 0 (sumsL 0 l) = -sg1 (sumsL 0 l) := by
  have hs := sg1_cases h
  have hn : ∀ c ∈ sumsL 0 l, c ≠ 0 := by rw [sums_nz]; exact nz_ne _
  cases hl : sumsL 0 l with
  | nil => rw [hl] at h; simp [chN] at h
  | cons c r =>
    rw [hl] at h hs hn
    exact last1 r _ hs (fun d hd => hn d (List.mem_cons_of_mem _ hd)) h
/-! Two payments. -/
theorem two_sums {x y n : Int} (hx : 0 < x) (hy : 0 < y) (hn : 0 < n) : sumsL 0 [(0, -x), (n, y)] = [-x, y] := by
  unfold sumsL
  rw [if_neg (by simp; omega), if_neg (by show ¬ (0 + -x = 0); omega)]
  unfold sumsL
  rw [if_neg (by simp), if_neg (by show ¬ (0 + y = 0); omega)]
  unfold sumsL
  simp
theorem two_val (f : Rat) (x y n : Int) : valQ f [(0, -x), (n, y)] = (y : Rat) - (x : Rat) * f ^ n.toNat := by
  show (0 * f ^ ((0 : Int) - 0).toNat + ((-x : Int) : Rat)) * f ^ (n - 0).toNat + (y : Rat) = _
  rw [Rat.intCast_neg, Int.sub_zero]
  grind
theorem two_ch {x y : Int} (hx : 0 < x) (hy : 0 < y) : chN [-x, y] = 1 ∧ sg1 [-x, y] = -1 := by
  have e1 : cmpZ (-x) 0 = -1 := by rcases cmpZ_cases (-x) with g | g | g <;> omega
  have e2 : cmpZ y 0 = 1 := by rcases cmpZ_cases y with g | g | g <;> omega
  unfold chN sg1
  simp only [chL]
  rw [e1, e2]
  exact ⟨by decide, rfl⟩
theorem two_bounds {x y n u z : Int} (hx : 0 < x) (hy : 0 < y) (hn : 0 < n) (hu : 0 < u) (h : Root [(0, -x), (n, y)] u z) :
    (Rat.divInt z u) ^ n.toNat ≤ Rat.divInt y x ∧ Rat.divInt y x ≤ (Rat.divInt (topZ [(0, -x), (n, y)] u z) u) ^ n.toNat := by
  have hc : chN (sumsL 0 [(0, -x), (n, y)]) = 1 := by rw [two_sums hx hy hn]; exact (two_ch hx hy).1
  have hs : sg1 (sumsL 0 [(0, -x), (n, y)]) = -1 := by rw [two_sums hx hy hn]; exact (two_ch hx hy).2
  have hxq : (0 : Rat) < (x : Rat) := by simpa using (Rat.intCast_pos.2 hx)
  have hyq : (0 : Rat) < (y : Rat) := by simpa using (Rat.intCast_pos.2 hy)
  have e : (y : Rat) = Rat.divInt y x * x := by rw [Rat.divInt_eq_div, Rat.div_mul_cancel (by grind)]
  have o2 : ((-1 : Int) : Rat) = -1 := rfl
  constructor
  · by_cases h0 : z = 0
    · rw [h0, divInt_zero']
      obtain ⟨k, hk⟩ : ∃ k, n.toNat = k + 1 := ⟨n.toNat - 1, by omega⟩
      rw [hk, Rat.pow_succ, Rat.mul_zero]
      exact Rat.le_of_lt (divInt_pos (by omega) hx)
    · have hp := divInt_pos (y := z) (by have := h.nn; omega) hu
      have p1 := ((place_sign hc hp).1).1 h.low
      rw [hs, two_val, e] at p1
      unfold sq at p1
      rw [o2] at p1
      have : (Rat.divInt z u) ^ n.toNat * (x : Rat) ≤ Rat.divInt y x * (x : Rat) := by grind
      exact Rat.le_of_mul_le_mul_right this hxq
  · have hp := divInt_pos h.top_pos hu
    have p1 := ((place_sign hc hp).2).1 h.high
    rw [hs, two_val, e] at p1
    unfold sq at p1
    rw [o2] at p1
    have : Rat.divInt y x * (x : Rat) ≤ (Rat.divInt (topZ [(0, -x), (n, y)] u z) u) ^ n.toNat * (x : Rat) := by grind
    exact Rat.le_of_mul_le_mul_right this hxq
/-! Lists that say the same. -/
def scaleL (k : Int) (l : List PZ) : List PZ := l.map (fun p => (p.1, p.2 * k))
def shiftL (d : Int) (l : List PZ) : List PZ := l.map (fun p => (p.1 + d, p.2))
theorem hv_scale (x : Rat) (k : Int) : ∀ (l : List PZ) (t : Rat) (a : Int), hv x (t * k) a (scaleL k l) = hv x t a l * k
  | [], t, a => rfl
  | p :: r, t, a => by
    have := hv_scale x k r (t * x ^ (p.1 - a).toNat + p.2) p.1
    show hv x (t * k * x ^ (p.1 - a).toNat + ((p.2 * k : Int) : Rat)) p.1 (scaleL k r) = hv x (t * x ^ (p.1 - a).toNat + p.2) p.1 r * k
    rw [← this, Rat.intCast_mul]
    congr 1
    grind
theorem val_scale (x : Rat) (k : Int) (l : List PZ) : valQ x (scaleL k l) = valQ x l * k := by
  rw [val_hv x _ 0, val_hv x l 0, ← hv_scale, Rat.zero_mul]
theorem hv_shift (x : Rat) (d : Int) : ∀ (l : List PZ) (t : Rat) (a : Int), hv x t (a + d) (shiftL d l) = hv x t a l
  | [], t, a => rfl
  | p :: r, t, a => by
    show hv x (t * x ^ (p.1 + d - (a + d)).toNat + p.2) (p.1 + d) (shiftL d r) = hv x (t * x ^ (p.1 - a).toNat + p.2) p.1 r
    rw [hv_shift x d r, (by omega : p.1 + d - (a + d) = p.1 - a)]
theorem val_shift (x : Rat) (d : Int) (l : List PZ) : valQ x (shiftL d l) = valQ x l := by
  rw [val_hv x _ (0 + d), val_hv x l 0, hv_shift]
theorem sums_shift (d : Int) : ∀ (l : List PZ) (s : Int), sumsL s (shiftL d l) = sumsL s l
  | [], s => rfl
  | p :: r, s => by
    have e : ((shiftL d r).head?.map (·.1) = some (p.1 + d)) ↔ (r.head?.map (·.1) = some p.1) := by
      cases r with
      | nil => simp [shiftL]
      | cons q t => simp [shiftL]
    show sumsL s ((p.1 + d, p.2) :: shiftL d r) = _
    unfold sumsL
    by_cases h : r.head?.map (·.1) = some p.1
    · rw [if_pos h, if_pos (e.2 h)]; exact sums_shift d r _
    · rw [if_neg h, if_neg (fun h2 => h (e.1 h2))]
      show (if s + p.2 = 0 then _ else _) = _
      rw [sums_shift d r 0]
theorem sums_scale (k : Int) (hk : k ≠ 0) : ∀ (l : List PZ) (s : Int), sumsL (s * k) (scaleL k l) = (sumsL s l).map (· * k)
  | [], s => rfl
  | p :: r, s => by
    have e : ((scaleL k r).head?.map (·.1) = some p.1) ↔ (r.head?.map (·.1) = some p.1) := by
      cases r with
      | nil => simp [scaleL]
      | cons q t => simp [scaleL]
    show sumsL (s * k) ((p.1, p.2 * k) :: scaleL k r) = _
    unfold sumsL
    by_cases h : r.head?.map (·.1) = some p.1
    · rw [if_pos h, if_pos (e.2 h)]
      show sumsL (s * k + p.2 * k) (scaleL k r) = _
      rw [← Int.add_mul]; exact sums_scale k hk r _
    · rw [if_neg h, if_neg (fun h2 => h (e.1 h2))]
      show (if s * k + p.2 * k = 0 then _ else _) = _
      have ih := sums_scale k hk r 0
      rw [Int.zero_mul] at ih
      rw [← Int.add_mul]
      by_cases h0 : s + p.2 = 0
      · rw [if_pos (by rw [h0, Int.zero_mul]), if_pos h0]; exact ih
      · rw [if_neg (by intro h1; rcases Int.mul_eq_zero.1 h1 with h2 | h2 <;> contradiction), if_neg h0, ih]; rfl
theorem cmpZ_mul (c k : Int) (hk : k ≠ 0) : cmpZ (c * k) 0 = cmpZ c 0 * cmpZ k 0 := by
  rcases cmpZ_cases c with g | g | g <;> rcases cmpZ_cases k with g' | g' | g' <;> try omega
  · rw [g.2, g'.2]; have := Int.mul_pos_of_neg_of_neg g.1 g'.1; rcases cmpZ_cases (c * k) with w | w | w <;> omega
  · rw [g.2, g'.2]; have := Int.mul_neg_of_neg_of_pos g.1 g'.1; rcases cmpZ_cases (c * k) with w | w | w <;> omega
  · rw [g.1, Int.zero_mul]; simp [cmpZ]
  · rw [g.1, Int.zero_mul]; simp [cmpZ]
  · rw [g.2, g'.2]; have := Int.mul_neg_of_pos_of_neg g.1 g'.1; rcases cmpZ_cases (c * k) with w | w | w <;> omega
  · rw [g.2, g'.2]; have := Int.mul_pos g.1 g'.1; rcases cmpZ_cases (c * k) with w | w | w <;> omega
theorem chL_scale (k : Int) (hk : k ≠ 0) : ∀ (l : List Int) (s : Int), chL (s * cmpZ k 0) (l.map (· * k)) = chL s l
  | [], s => rfl
  | c :: r, s => by
    show (if cmpZ (c * k) 0 = s * cmpZ k 0 then 0 else 1) + chL (cmpZ (c * k) 0) (r.map (· * k)) = (if cmpZ c 0 = s then 0 else 1) + chL (cmpZ c 0) r
    rw [cmpZ_mul c k hk, chL_scale k hk r]
    have : (cmpZ c 0 * cmpZ k 0 = s * cmpZ k 0) ↔ cmpZ c 0 = s := by
      rcases cmpZ_cases k with g | g | g
      · rw [g.2]; omega
      · omega
      · rw [g.2]; omega
    by_cases h : cmpZ c 0 = s
    · rw [if_pos h, if_pos (this.2 h)]
    · rw [if_neg h, if_neg (fun h2 => h (this.1 h2))]
theorem chN_scale (k : Int) (hk : k ≠ 0) (l : List Int) : chN (l.map (· * k)) = chN l ∧ sg1 (l.map (· * k)) = sg1 l * cmpZ k 0 := by
  cases l with
  | nil => exact ⟨rfl, by show (0 : Int) = 0 * _; omega⟩
  | cons c r =>
    refine ⟨?_, cmpZ_mul c k hk⟩
    show chL (cmpZ (c * k) 0) (r.map (· * k)) = chL (cmpZ c 0) r
    rw [cmpZ_mul c k hk, chL_scale k hk]
theorem cmpQ_scale (q : Rat) (k : Int) (hk : k ≠ 0) : cmpQ (q * k) 0 = cmpQ q 0 * cmpZ k 0 := by
  rw [cmpQ_if, cmpQ_if]
  have z : ((0 : Int) : Rat) = 0 := rfl
  rcases cmpZ_cases k with g | g | g
  · have hk : (k : Rat) < 0 := by rw [← z]; exact Rat.intCast_lt_intCast.2 g.1
    rw [g.2]
    by_cases h1 : q < 0
    · have : 0 < q * k := by have := Rat.mul_pos (a := -q) (b := -k) (by grind) (by grind); grind
      rw [if_pos h1, if_neg (by grind), if_pos this]; rfl
    · by_cases h2 : 0 < q
      · have : q * k < 0 := by have := Rat.mul_pos (a := q) (b := -k) (by grind) (by grind); grind
        rw [if_neg h1, if_pos h2, if_pos this]; rfl
      · have : q = 0 := by grind
        rw [this, Rat.zero_mul]; simp
  · omega
  · have hk : 0 < (k : Rat) := by rw [← z]; exact Rat.intCast_lt_intCast.2 g.1
    rw [g.2]
    by_cases h1 : q < 0
    · have : q * k < 0 := by have := Rat.mul_pos (a := -q) (b := k) (by grind) (by grind); grind
      rw [if_pos h1, if_pos this]; rfl
    · by_cases h2 : 0 < q
      · have : 0 < q * k := Rat.mul_pos h2 hk
        rw [if_neg h1, if_pos h2, if_neg (by grind), if_pos this]; rfl
      · have : q = 0 := by grind
        rw [this, Rat.zero_mul]; simp
theorem place_scale {k : Int} (hk : k ≠ 0) (l : List PZ) (x : Rat) : placeQ (sg1 (sumsL 0 (scaleL k l))) (scaleL k l) x = placeQ (sg1 (sumsL 0 l)) l x := by
  have h := sums_scale k hk l 0
  rw [Int.zero_mul] at h
  rw [h, (chN_scale k hk _).2]
  unfold placeQ
  rw [val_scale, cmpQ_scale _ k hk]
  by_cases h0 : x = 0
  · rw [if_pos h0, if_pos h0]
  · rw [if_neg h0, if_neg h0]
    rcases cmpZ_cases k with g | g | g
    · rw [g.2]; grind
    · omega
    · rw [g.2]; grind
theorem place_shift (d : Int) (l : List PZ) (x : Rat) : placeQ (sg1 (sumsL 0 (shiftL d l))) (shiftL d l) x = placeQ (sg1 (sumsL 0 l)) l x := by
  rw [sums_shift]; unfold placeQ; rw [val_shift]
theorem grp_same : ∀ (l : List PZ) (a : Int), UpS a l → grpL 0 l = l
  | [], a, _ => rfl
  | p :: r, a, h => by
    unfold grpL
    have h2 := h.2
    rw [if_neg (by
      cases r with
      | nil => simp
      | cons q t => have := h2.1; simp; omega), grp_same r p.1 h2, Int.zero_add]
theorem place_grp (l : List PZ) (a : Int) (h : UpL a l) (x : Rat) : sumsL 0 (grpL 0 l) = sumsL 0 l ∧ placeQ (sg1 (sumsL 0 (grpL 0 l))) (grpL 0 l) x = placeQ (sg1 (sumsL 0 l)) l x := by
  have e : sumsL 0 (grpL 0 l) = sumsL 0 l := by rw [sums_nz, sums_nz, grp_same _ _ (upS_start l a h)]
  refine ⟨e, ?_⟩
  rw [e]
  unfold placeQ
  rw [← val_grp]
/-! Sums of lists. -/
def addL : List PZ → List PZ → List PZ
  | p :: r, q :: t => (p.1, p.2 + q.2) :: addL r t
  | _, _ => []
theorem hv_add (x : Rat) : ∀ (l m : List PZ) (t u : Rat) (a : Int), l.map (·.1) = m.map (·.1) → hv x (t + u) a (addL l m) = hv x t a l + hv x u a m
  | [], [], t, u, a, _ => rfl
  | p :: r, q :: s, t, u, a, h => by
    simp only [List.map_cons, List.cons.injEq] at h
    show hv x ((t + u) * x ^ (p.1 - a).toNat + ((p.2 + q.2 : Int) : Rat)) p.1 (addL r s) = hv x (t * x ^ (p.1 - a).toNat + p.2) p.1 r + hv x (u * x ^ (q.1 - a).toNat + q.2) q.1 s
    rw [← h.1, ← hv_add x r s _ _ _ h.2, Rat.intCast_add]
    congr 1
    grind
  | [], _ :: _, _, _, _, h => by simp at h
  | _ :: _, [], _, _, _, h => by simp at h
theorem val_add (x : Rat) (l m : List PZ) (h : l.map (·.1) = m.map (·.1)) : valQ x (addL l m) = valQ x l + valQ x m := by
  have := hv_add x l m 0 0 0 h
  rw [val_hv x _ 0, val_hv x l 0, val_hv x m 0, ← this, Rat.add_zero]
def sumL : Int → List PZ → Int
  | s, [] => s
  | s, p :: r => sumL (s + p.2) r
theorem hv_one : ∀ (l : List PZ) (s a : Int), hv 1 (s : Rat) a l = (sumL s l : Int)
  | [], s, a => rfl
  | p :: r, s, a => by
    show hv 1 ((s : Rat) * 1 ^ (p.1 - a).toNat + p.2) p.1 r = (sumL (s + p.2) r : Int)
    rw [← hv_one r (s + p.2) p.1, Rat.intCast_add]
    have e1 : ∀ k : Nat, (1 : Rat) ^ k = 1 := fun k => by
      induction k with
      | zero => rw [Rat.pow_zero]
      | succ k ih => rw [Rat.pow_succ, ih, Rat.mul_one]
    rw [e1, Rat.mul_one]
theorem val_one (l : List PZ) : valQ 1 l = (sumL 0 l : Int) := by
  rw [val_hv 1 l 0, ← hv_one l 0 0]; rfl
end Go.Proofs.YtmjglcgdcclinaaGreatDoor
