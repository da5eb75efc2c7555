/- Texts put together: Nf Fp Vp Ve Bg. -/
import Derived.Test.YtgnppdkeiihlfaaGreatDoorF4
import Derived.Laws.Tables
namespace Go.Proofs.YtgnppdkeiihlfaaGreatDoor
open Go.RowKit Num
structure BG (xs : List Mon) (k L : Nat) : Prop where
  bag : Bag xs
  codes : Codes xs
  amt : AmtLt k xs
  len : xs.length ≤ L
theorem codes_sum {a b : List Mon} (ha : Srt a) (hb : Srt b) (h : Codes a) (h' : Codes b) : Codes (smL a b) := fun x hx => by
  rcases sum_key ha hb hx with ⟨y, hy, e⟩ | ⟨y, hy, e⟩
  · rw [← e]; exact h y hy
  · rw [← e]; exact h' y hy
theorem BG.ok {a : List Mon} {k L : Nat} (h : BG a k L) (hl : a.length ≤ 16) : bagE a = 0 := bagE_mk h.bag h.codes hl
theorem codeB_len {l : List UInt8} (h : codeB l = true) : l.length = 3 := by
  unfold codeB at h; simp at h; exact h.1
structure AtM (w : World) (A : Option Addr) (xs : List Mon) (n c : Nat) : Prop where
  len : xs.length = n
  cap : n ≤ c
  mem : MonAt w A xs
theorem AtM.below {w w' : World} {A : Option Addr} {xs : List Mon} {n c : Nat} (h : AtM w A xs n c) (hb : Below w.heap.size w w') : AtM w' A xs n c := ⟨h.len, h.cap, h.mem.below hb⟩
theorem AtM.nil (w : World) : AtM w none [] 0 0 := ⟨rfl, Nat.le_refl _, mon_nil w none⟩
theorem BG.ml {w : World} {A : Option Addr} {xs : List Mon} {n c k L : Nat} (h : BG xs k L) (hk : k ≤ 90) (hl : xs.length ≤ 16) (hm : AtM w A xs n c) : ML w A xs n :=
  ⟨hm.len, by have := hm.len; omega, fun t ht => ⟨by rw [codeB_len (h.codes t ht)]; decide, Nat.le_trans (can_len h.bag.can h.amt t ht) (by omega)⟩, hm.mem⟩
def BagEnd (xs : List Mon) (w : World) (e : Ending) (w' : World) : Prop := ∃ B m cp, e = .returned (.tuple #[.slice B m cp, .int .i64 0]) ∧ AtM w' B xs m cp ∧ Below w.heap.size w w'
theorem bag_end {xs ys : List Mon} {z : Int} {w w' : World} {e : Ending} (h : MonEnd ys z w e w') (h1 : ys = xs) (h2 : z = 0) : BagEnd xs w e w' := by
  subst h1 h2
  obtain ⟨B, m, cp, he, hl, hc, hm, hb⟩ := h
  exact ⟨B, m, cp, he, ⟨hl, hc, hm⟩, hb⟩
theorem mNegG {A : Option Addr} {xs : List Mon} {n c k L : Nat} {w : World} (hG : Glob w) (h : BG xs k L) (hk : k ≤ 90) (hx : AtM w A xs n c) (h1 : xs.length ≤ 16) :
    Calls Tryz.prog 25 #[.slice A n c] w (BagEnd (xs.map negM) w) := by
  refine (mNeg A xs n c w hG (h.ml hk h1 hx)).mono (fun e w' hE => bag_end hE ?_ ?_)
  · unfold negV; rw [if_neg (fun g => g (h.ok h1))]
  · unfold negV; rw [if_neg (fun g => g (h.ok h1))]
theorem mPutG {A : Option Addr} {xs zs : List Mon} {m : Mon} {n c k L : Nat} {w : World} (hG : Glob w) (h : BG xs k L) (hk : k ≤ 90) (hx : AtM w A xs n c) (hm : codeB m.cur = true) (hg : m.amt = canon (val m.amt)) (hl : m.amt.length ≤ 100) (hz : putL xs m = zs) (h1 : xs.length ≤ 16) (h3 : zs.length ≤ 16) :
    Calls Tryz.prog 77 #[.slice A n c, .agg #[.string ⟨m.cur.toArray⟩, .string ⟨m.amt.toArray⟩]] w (BagEnd zs w) := by
  refine (mPut A xs n c m w hG (h.ml hk h1 hx) hx.cap (by rw [codeB_len hm]; decide) (by omega)).mono (fun e w' hE => bag_end hE ?_ ?_)
  · unfold putV; rw [if_neg (fun g => g (h.ok h1)), if_neg (fun g => g hm), if_neg (fun g => g hg)]; unfold smR; rw [show smL xs [m] = zs from hz, if_neg (by omega)]
  · unfold putV; rw [if_neg (fun g => g (h.ok h1)), if_neg (fun g => g hm), if_neg (fun g => g hg)]; unfold smE; rw [show smL xs [m] = zs from hz, if_neg (by omega)]
theorem eqMG {A B : Option Addr} {xs ys : List Mon} {n c n' c' : Nat} {w : World} (hx : AtM w A xs n c) (hy : AtM w B ys n' c') (h : xs = ys) (hl : xs.length ≤ 16) :
    Calls Tryz.prog 26 #[.slice A n c, .slice B n' c'] w fun e w' => e = .returned (.bool true) ∧ Below w.heap.size w w' := by
  subst h
  have := eqMs A B xs xs n n' c c' w hx.len hy.len (by have := hx.len; omega) (by have := hy.len; omega) hx.mem hy.mem
  rwa [sameMs_self] at this
end Go.Proofs.YtgnppdkeiihlfaaGreatDoor
namespace Go.Proofs.YtgnppdkeiihlfaaGreatDoor
open Num
theorem fw_implied {s up dn y f : Rat} (hs : s ≠ 0) (hu : up ≠ 0) (hd : dn ≠ 0) (hy : y ≠ 0) (e : dn = 1 + f * y) : (s * up / (s * up / dn) - 1) / y = f := by
  have h1 : s * up / (s * up / dn) = dn := by
    have : s * up ≠ 0 := by
      intro h; rcases Rat.mul_eq_zero.1 h with h | h
      · exact hs h
      · exact hu h
    grind
  rw [h1, e]
  grind
theorem fw_even {s v q : Rat} (hq : q ≠ 0) : q * (s + v / q - s) = v := by grind
theorem fw_same {s up : Rat} (h : up ≠ 0) : s * up / up = s := by grind
theorem fw_disc {g up : Rat} (hg : 0 ≤ g) (hu : 1 ≤ up) : 0 ≤ g / up ∧ g / up ≤ g := by
  have h0 : 0 < up := by grind
  have h1 : 0 < up⁻¹ := Rat.inv_pos.2 h0
  have h2 : up⁻¹ ≤ 1 := by
    have := Rat.mul_le_mul_of_nonneg_right hu (Rat.le_of_lt h1)
    rw [Rat.mul_inv_cancel _ (by grind), Rat.one_mul] at this
    exact this
  rw [Rat.div_def]
  refine ⟨Rat.mul_nonneg hg (Rat.le_of_lt h1), ?_⟩
  have := Rat.mul_le_mul_of_nonneg_left h2 hg
  rwa [Rat.mul_one] at this
theorem fw_discN {g up : Rat} (hg : g ≤ 0) (hu : 1 ≤ up) : g ≤ g / up ∧ g / up ≤ 0 := by
  obtain ⟨h1, h2⟩ := fw_disc (g := -g) (up := up) (by grind) hu
  have e : -g / up = -(g / up) := by rw [Rat.div_def, Rat.div_def, Rat.neg_mul]
  rw [e] at h1 h2
  exact ⟨by grind, by grind⟩
theorem rnd_zero (m : Int) : rnd 0 m = 0 := rnd_int 0 m
theorem fw_near {g up : Rat} (hu : 1 ≤ up) : (0 ≤ rnd g 1 → 0 ≤ rnd (g / up) 1 ∧ rnd (g / up) 1 ≤ rnd g 1) ∧ (rnd g 1 < 0 → rnd (g / up) 1 ≤ 0 ∧ rnd g 1 ≤ rnd (g / up) 1) := by
  rcases Rat.le_total (a := 0) (b := g) with h | h
  · obtain ⟨h1, h2⟩ := fw_disc h hu
    have a := rnd_mono 1 h1
    have b := rnd_mono 1 h2
    have c := rnd_mono 1 h
    rw [rnd_zero] at a c
    exact ⟨fun _ => ⟨a, b⟩, fun h => by omega⟩
  · obtain ⟨h1, h2⟩ := fw_discN h hu
    have a := rnd_mono 1 h1
    have b := rnd_mono 1 h2
    have c := rnd_mono 1 h
    rw [rnd_zero] at b c
    exact ⟨fun g0 => ⟨by omega, by omega⟩, fun _ => ⟨b, a⟩⟩
theorem cmpZ_or (a b : Int) : (a < b ∧ cmpZ a b = -1) ∨ (a = b ∧ cmpZ a b = 0) ∨ (b < a ∧ cmpZ a b = 1) := by
  unfold cmpZ
  rcases Int.lt_trichotomy a b with h | h | h
  · exact .inl ⟨h, if_pos h⟩
  · exact .inr (.inl ⟨h, by rw [if_neg (by omega), if_neg (by omega)]⟩)
  · exact .inr (.inr ⟨h, by rw [if_neg (by omega), if_pos h]⟩)
theorem fw_mono (q : Int) (a b s : Rat) : 0 ≤ cmpZ q 0 * cmpQ a b * cmpZ (rnd ((q : Rat) * (a - s)) 1) (rnd ((q : Rat) * (b - s)) 1) := by
  have key : ∀ {x y : Rat}, 0 ≤ (q : Rat) → x ≤ y → rnd ((q : Rat) * (x - s)) 1 ≤ rnd ((q : Rat) * (y - s)) 1 := fun h0 h =>
    rnd_mono 1 (Rat.mul_le_mul_of_nonneg_left (by grind) h0)
  have keyN : ∀ {x y : Rat}, (q : Rat) ≤ 0 → x ≤ y → rnd ((q : Rat) * (y - s)) 1 ≤ rnd ((q : Rat) * (x - s)) 1 := fun {x y} h0 h => by
    refine rnd_mono 1 ?_
    have h1 := Rat.mul_le_mul_of_nonneg_left (c := -(q : Rat)) (a := x - s) (b := y - s) (by grind) (by grind)
    rw [Rat.neg_mul, Rat.neg_mul] at h1
    exact Rat.neg_le_neg_iff.1 h1
  have hq0 : 0 ≤ q → (0 : Rat) ≤ (q : Rat) := fun h => by exact_mod_cast h
  have hqn : q ≤ 0 → (q : Rat) ≤ (0 : Rat) := fun h => by exact_mod_cast h
  have hcq : cmpQ a b = if a < b then -1 else if b < a then 1 else 0 := cmpQ_if a b
  rcases cmpZ_or q 0 with ⟨h, e⟩ | ⟨h, e⟩ | ⟨h, e⟩
  · rw [e]
    by_cases h1 : a < b
    · have := keyN (hqn (by omega)) (Rat.le_of_lt h1)
      rw [hcq, if_pos h1]
      have := cmpZ_ge this
      omega
    · rw [hcq, if_neg h1]
      by_cases h2 : b < a
      · have := keyN (hqn (by omega)) (Rat.le_of_lt h2)
        rw [if_pos h2]
        have := cmpZ_le this
        omega
      · rw [if_neg h2]; omega
  · rw [e]; omega
  · rw [e]
    by_cases h1 : a < b
    · have := key (hq0 (by omega)) (Rat.le_of_lt h1)
      rw [hcq, if_pos h1]
      have := cmpZ_le this
      omega
    · rw [hcq, if_neg h1]
      by_cases h2 : b < a
      · have := key (hq0 (by omega)) (Rat.le_of_lt h2)
        rw [if_pos h2]
        have := cmpZ_ge this
        omega
      · rw [if_neg h2]; omega
theorem fw_settled (q : Int) (r s : Rat) : (q : Rat) * r + ((-(rnd ((q : Rat) * s) 1) : Int) : Rat) - ((rnd ((q : Rat) * (r - s)) 1 : Int) : Rat) ≤ 1 ∧ -1 ≤ (q : Rat) * r + ((-(rnd ((q : Rat) * s) 1) : Int) : Rat) - ((rnd ((q : Rat) * (r - s)) 1 : Int) : Rat) := by
  have h1 := rnd_half ((q : Rat) * s) 1 (.inl rfl)
  have h2 := rnd_half ((q : Rat) * (r - s)) 1 (.inl rfl)
  have e : (q : Rat) * (r - s) = (q : Rat) * r - (q : Rat) * s := by grind
  rw [Rat.intCast_neg]
  generalize hX : ((rnd ((q : Rat) * s) 1 : Int) : Rat) = X at *
  generalize hY : ((rnd ((q : Rat) * (r - s)) 1 : Int) : Rat) = Y at *
  rw [e] at h2
  generalize (q : Rat) * r = A at *
  generalize (q : Rat) * s = B at *
  clear hX hY e
  exact ⟨by grind, by grind⟩
end Go.Proofs.YtgnppdkeiihlfaaGreatDoor
namespace Go.Proofs.YtgnppdkeiihlfaaGreatDoor
open Go.RowKit Num
def fkE (x : Ins) : Int := if ¬ chkE x = 0 then chkE x else if ¬ x.kind = 5 then 7 else 0
structure Fwd (x : Ins) : Prop where
  cur : codeB x.cur = true
  oth : codeB x.other = true
  ne : ¬ x.other = x.cur
  can : isCan x.sn x.sd
  pos : 0 < fv x.sn x.sd
theorem cmpQ_sgn {q c : Rat} {z : Int} (e : cmpQ q c = z) : (z ≤ 0 ↔ q ≤ c) ∧ (z < 0 ↔ q < c) ∧ (z = 0 ↔ q = c) := by
  rw [cmpQ_if] at e
  by_cases h1 : q < c
  · rw [if_pos h1] at e
    subst e
    have hne : q ≠ c := fun h => by rw [h] at h1; exact absurd h1 (Rat.lt_irrefl)
    exact ⟨⟨fun _ => Rat.le_of_lt h1, fun _ => by decide⟩, ⟨fun _ => h1, fun _ => by decide⟩, ⟨fun h => absurd h (by decide), fun h => absurd h hne⟩⟩
  · rw [if_neg h1] at e
    have h1' : c ≤ q := Rat.not_lt.1 h1
    by_cases h2 : c < q
    · rw [if_pos h2] at e
      subst e
      have hne : q ≠ c := fun h => by rw [h] at h2; exact absurd h2 (Rat.lt_irrefl)
      exact ⟨⟨fun h => absurd h (by decide), fun h => absurd h2 (Rat.not_lt.2 h)⟩, ⟨fun h => absurd h (by decide), fun h => absurd h h1⟩, ⟨fun h => absurd h (by decide), fun h => absurd h hne⟩⟩
    · rw [if_neg h2] at e
      subst e
      have h2' : q ≤ c := Rat.not_lt.1 h2
      exact ⟨⟨fun _ => h2', fun _ => by decide⟩, ⟨fun h => absurd h (by decide), fun h => absurd h h1⟩, ⟨fun _ => Rat.le_antisymm h2' h1', fun _ => rfl⟩⟩
theorem fwd_of {x : Ins} (h : fkE x = 0) : Fwd x := by
  unfold fkE at h
  by_cases hc : chkE x = 0
  rotate_left
  · rw [if_pos hc] at h; exact absurd h hc
  rw [if_neg (fun g => g hc)] at h
  by_cases hk : x.kind = 5
  rotate_left
  · rw [if_pos hk] at h; exact absurd h (by decide)
  unfold chkE at hc
  split at hc
  · exact absurd hc (by decide)
  split at hc
  · exact absurd hc (by decide)
  split at hc
  · exact absurd hc (by decide)
  rename_i g3
  split at hc
  · exact absurd hc (by decide)
  split at hc
  · exact absurd hc (by decide)
  unfold tailE at hc
  split at hc
  · exact absurd hc (by decide)
  split at hc
  · rename_i g; exact absurd hc g
  rename_i gn
  have gn : numsE x = 0 := Decidable.not_not.1 gn
  unfold numsE at gn
  split at gn
  · rename_i g; exact absurd gn g
  split at gn
  · rename_i g; exact absurd gn g
  unfold ownE at hc
  rw [if_neg (by omega), if_pos hk] at hc
  unfold fwdE at hc
  split at hc
  · exact absurd hc (by decide)
  rename_i gc
  split at hc
  · exact absurd hc (by decide)
  rename_i gs
  have gcan : isCan x.sn x.sd := by
    unfold numE at gn
    split at gn
    · assumption
    · exact absurd gn (by decide)
  refine ⟨Decidable.not_not.1 g3, ?_, fun e => gc (.inr e), gcan, ?_⟩
  · exact Decidable.not_not.1 (fun e => gc (.inl e))
  · have e1 := sign_can gcan
    have e2 := cmpQ_sgn e1
    unfold sg at gs
    exact Rat.not_le.1 (fun e => gs (e2.1.2 e))
theorem fn0 : fN 0 = [] ∧ fD 0 = [] := by decide +kernel
def okB (x : Ins) (q : List UInt8) : Bool := decide (fkE x = 0) && decide (q = canon (val q))
theorem ok_iff {x : Ins} {q : List UInt8} : okB x q = true ↔ fkE x = 0 ∧ q = canon (val q) := by
  unfold okB; rw [Bool.and_eq_true, decide_eq_true_eq, decide_eq_true_eq]
def stk (x : Ins) : Rat := fv x.sn x.sd
def upQ (r y : Fp2) : Rat := 1 + fv r.1 r.2 * fv y.1 y.2
def fairB (s d f y : Fp2) : Bool := decide (fv s.1 s.2 ≤ 0) || decide (fv y.1 y.2 < 0) || decide (upQ d y ≤ 0) || decide (upQ f y ≤ 0)
def fairV (s d f y : Fp2) : Rat × Int :=
  if ¬ [s, d, f, y].all canB = true then (0, 1) else if fairB s d f y = true then (0, 2) else (fv s.1 s.2 * upQ d y / upQ f y, 0)
def impB (s r d y : Fp2) : Bool := decide (fv s.1 s.2 ≤ 0) || decide (fv r.1 r.2 ≤ 0) || decide (fv y.1 y.2 < 0) || decide (upQ d y ≤ 0)
def impV (s r d y : Fp2) : Rat × Int :=
  if ¬ [s, r, d, y].all canB = true then (0, 1) else if impB s r d y = true then (0, 2) else if fv y.1 y.2 = 0 then (0, 10) else ((fv s.1 s.2 * upQ d y / fv r.1 r.2 - 1) / fv y.1 y.2, 0)
def qZ (q : List UInt8) : Rat := ((val q : Int) : Rat)
def presB (r i y : Fp2) : Bool := decide (fv r.1 r.2 < 0) || decide (fv y.1 y.2 < 0) || decide (upQ i y ≤ 0)
def presV (x : Ins) (q : List UInt8) (r i y : Fp2) : List UInt8 × Int :=
  if ¬ (okB x q && [r, i, y].all canB) = true then ([], 1) else if presB r i y = true then ([], 2) else (canon (rnd (qZ q * (fv r.1 r.2 - stk x) / upQ i y) 1), 0)
def paidZ (x : Ins) (q : List UInt8) : Int := -(rnd (qZ q * stk x) 1)
def evenV (x : Ins) (q v : List UInt8) : Rat × Int :=
  if ¬ (okB x q && decide (v = canon (val v))) = true then (0, 1) else if val q = 0 then (0, 10) else (stk x + Rat.divInt (val v) (val q), 0)
theorem bd_of {r : Fp2} {k : Nat} (h : r.1.length ≤ k ∧ r.2.length ≤ k) (hk : 1 ≤ k) : Bd k (fv r.1 r.2) := bd_fv h.1 h.2 hk
theorem bd_1 : Bd 1 (1 : Rat) := by constructor <;> decide
theorem bd_up {r y : Fp2} {k m : Nat} (h : r.1.length ≤ k ∧ r.2.length ≤ k) (h' : y.1.length ≤ m ∧ y.2.length ≤ m) (hk : 1 ≤ k) (hm : 1 ≤ m) : Bd (k + m + 2) (upQ r y) :=
  bd_mono (bd_add bd_1 (bd_mul (bd_of h hk) (bd_of h' hm))) (by omega)
theorem bd_div {j k : Nat} {p q : Rat} (h : Bd j p) (h' : Bd k q) (hk : 1 ≤ k) : Bd (j + k) (p / q) := by
  rw [Rat.div_def]; exact bd_mul h (bd_inv0 h' hk)
theorem bd_q {q : List UInt8} {k : Nat} (h : q.length ≤ k) (hk : 1 ≤ k) : Bd k (qZ q) := bd_int (val_lt_of h) hk
theorem bd_rnd {q : Rat} {k : Nat} (b : Bd k q) (m : Int) : (rnd q m).natAbs < 10 ^ (k + 1) := by
  have h2 := rnd_le q m
  have h3 := fl_abs q
  have h4 := b.1
  rw [Nat.pow_succ]
  omega
end Go.Proofs.YtgnppdkeiihlfaaGreatDoor
namespace Go.Proofs.YtgnppdkeiihlfaaGreatDoor
open Go.RowKit Num
section
variable {P : Program} {X : Nat → Prop}
theorem FBox.keepX {w w' : World} {b : Nat} {u v : Value} (h : FBox w b u v) (hb : BelowX X w w') (hx : ¬ X b) : FBox w' b u v := by
  have e := hb.block b h.lt hx
  exact ⟨(World.cell?_of_block (w := w) e).trans h.c0, (World.cell?_of_block (w := w) e).trans h.c1, (World.frozen?_of_block (w := w) e).trans h.f0, (World.frozen?_of_block (w := w) e).trans h.f1, Nat.lt_of_lt_of_le h.lt hb.size⟩
theorem wp_region_kept_one {id : Nat} {Q : Exit → Act → World → Prop} {a : Act} {w : World} {l : List Oper} (K b : Nat) (s : Tmp) (ob : Obj) (hm : P.follows .mixedOrders = true) (hB : Region.lexB .any l.toArray = true)
    (hK : l.length ≤ K) (h1 : w.heap[b]? = some ob) (ha : a.put (some s) (.pointer (some ⟨b, 0, none⟩)) = a)
    (h : wpKept P l.toArray (BelowX (fun k => k = b) w) (fun a' B => ∀ ρ w', FitsX (fun k => k = b) w ρ B w' → Q .normal (a' ρ) w') l 0 (fun ρ => a.put (some s) (.pointer (some ⟨ρ K, 0, none⟩))) (fun k => if k = K then some (false, ob) else none)) : (Code.region id l.toArray true).wp P Q a w := by
  simp only [Region.lexB, Bool.and_eq_true] at hB
  refine wp_region_any hm ?_
  have hf : FitsX (fun k => k = b) w (fun _ => b) (fun k => if k = K then some (false, ob) else none) { w with drawn := w.drawn + 1 } := by
    refine ⟨⟨rfl, rfl, rfl, Nat.le_refl _, fun _ _ _ => rfl⟩, ?_, ?_⟩
    · intro k s' o' hk
      by_cases hkK : k = K
      · rw [if_pos hkK] at hk
        simp only [Option.some.injEq, Prod.mk.injEq] at hk
        exact ⟨.inr rfl, by rw [← hk.2]; exact h1⟩
      · rw [if_neg hkK] at hk; cases hk
    · intro k j hk hj _
      by_cases hkK : k = K
      · by_cases hjK : j = K
        · rw [hkK, hjK]
        · rw [if_neg hjK] at hj; exact absurd rfl hj
      · rw [if_neg hkK] at hk; exact absurd rfl hk
  have hfr : FreeOf (Array.replicate l.toArray.size false) (fun ρ => a.put (some s) (.pointer (some ⟨ρ K, 0, none⟩))) := by
    intro i ρ c hi
    have hlt : i < l.length := by
      rcases Nat.lt_or_ge i l.length with h' | h'
      · exact h'
      · rw [Array.getD_eq_getD_getElem?, Array.getElem?_eq_none (by simpa using h')] at hi; cases hi
    have e : upd ρ i c K = ρ K := if_neg (by omega)
    simp only [e]
  have := wpAnyK_lex (C := BelowX (fun k => k = b) w) (md := .any) hB.1 l 0 (Array.replicate l.toArray.size false) _ _ (by simp) (by simpa using hB.2) h
  have h3 := wpAny_of_keptX (Q := fun a' B => ∀ ρ w', FitsX (fun k => k = b) w ρ B w' → Q .normal (a' ρ) w') (fun a' B ρ w' hf' h' => h' ρ w' hf') _ _ _ _ _ _ hf hfr this
  rw [ha] at h3
  simpa using h3
end
theorem frAt_of {w : World} {b : Nat} {rs : List Fp2} (hlt : b < w.heap.size) (h : ∀ i, i < rs.length → w.cell? ⟨b, 0 + i * 2, none⟩ = some (.string ⟨(rs.getD i ([], [])).1.toArray⟩) ∧ w.cell? ⟨b, 0 + i * 2 + 1, none⟩ = some (.string ⟨(rs.getD i ([], [])).2.toArray⟩)) : FrAt w (some ⟨b, 0, none⟩) rs := fun i r hr => by
  obtain ⟨hi, e⟩ := List.getElem?_eq_some_iff.1 hr
  have h2 := h i hi
  rw [List.getD_eq_getElem?_getD, hr] at h2
  exact ⟨b, 0, rfl, hlt, h2.1, h2.2⟩
theorem ret0 {V : Rat × Int} {z : Int} (h : V = (0, z)) : Ending.returned (.tuple #[.agg #[.string ⟨#[]⟩, .string ⟨#[]⟩], .int .i64 z]) = .returned (.tuple #[(Value.agg #[Value.string ⟨List.toArray (fN (V.1))⟩, Value.string ⟨List.toArray (fD (V.1))⟩]), .int .i64 V.2]) := by
  rw [h]; simp only [fn0.1, fn0.2]
theorem retq {V : Rat × Int} {q : Rat} {z : Int} (h : V = (q, z)) : Ending.returned (.tuple #[(Value.agg #[Value.string ⟨List.toArray (fN q)⟩, Value.string ⟨List.toArray (fD q)⟩]), .int .i64 z]) = .returned (.tuple #[(Value.agg #[Value.string ⟨List.toArray (fN (V.1))⟩, Value.string ⟨List.toArray (fD (V.1))⟩]), .int .i64 V.2]) := by
  rw [h]
theorem or4_1 {a b c d : Prop} [Decidable a] [Decidable b] [Decidable c] [Decidable d] (h : a) : (decide a || decide b || decide c || decide d) = true := by rw [decide_eq_true h]; rfl
theorem or4_2 {a b c d : Prop} [Decidable a] [Decidable b] [Decidable c] [Decidable d] (h : b) : (decide a || decide b || decide c || decide d) = true := by rw [decide_eq_true h]; simp
theorem or4_3 {a b c d : Prop} [Decidable a] [Decidable b] [Decidable c] [Decidable d] (h : c) : (decide a || decide b || decide c || decide d) = true := by rw [decide_eq_true h]; simp
theorem or4_4 {a b c d : Prop} [Decidable a] [Decidable b] [Decidable c] [Decidable d] (h : d) : (decide a || decide b || decide c || decide d) = true := by rw [decide_eq_true h]; simp
theorem or4_no {a b c d : Prop} [Decidable a] [Decidable b] [Decidable c] [Decidable d] (h1 : ¬ a) (h2 : ¬ b) (h3 : ¬ c) (h4 : ¬ d) : ¬ (decide a || decide b || decide c || decide d) = true := by
  rw [decide_eq_false h1, decide_eq_false h2, decide_eq_false h3, decide_eq_false h4]; simp
set_option maxHeartbeats 2000000 in
set_option maxRecDepth 100000 in
theorem fCheck (x : Ins) (hx : x.Small) : Ret 16 #[(Value.agg #[Value.string ⟨List.toArray x.id⟩, Value.int .i64 x.kind, Value.string ⟨List.toArray x.cur⟩, Value.int .i64 x.places, Value.int .i64 x.issued, Value.int .i64 x.matures, Value.string ⟨List.toArray x.fn⟩, Value.string ⟨List.toArray x.fd⟩, Value.string ⟨List.toArray x.cn⟩, Value.string ⟨List.toArray x.cd⟩, Value.int .i64 x.months, Value.int .i64 x.count, Value.string ⟨List.toArray x.other⟩, Value.string ⟨List.toArray x.sn⟩, Value.string ⟨List.toArray x.sd⟩])] (.int .i64 (fkE x)) := fun w hG => by
  have C1 := Lib.hid (iCheck x hx)
  have x1 := IBox.new w x 27
  have hb := below_alloc w (.cells #[Value.string ⟨List.toArray x.id⟩, Value.int .i64 x.kind, Value.string ⟨List.toArray x.cur⟩, Value.int .i64 x.places, Value.int .i64 x.issued, Value.int .i64 x.matures, Value.string ⟨List.toArray x.fn⟩, Value.string ⟨List.toArray x.fd⟩, Value.string ⟨List.toArray x.cn⟩, Value.string ⟨List.toArray x.cd⟩, Value.int .i64 x.months, Value.int .i64 x.count, Value.string ⟨List.toArray x.other⟩, Value.string ⟨List.toArray x.sn⟩, Value.string ⟨List.toArray x.sd⟩] 27)
  by_cases g1 : chkE x = 0
  · have bk : (chkE x != 0) = false := bneq (intbeq g1)
    by_cases g2 : x.kind = 5
    · have b2 : (x.kind != 5) = false := bneq (intbeq g2)
      have HV : Hid (fkE x = 0) := by show _ = _; unfold fkE; rw [if_neg (fun h => h g1), if_neg (fun h => h g2)]
      clear g1 g2
      go_enter Tryz.func16, Tryz.ntmps16
      obtain ⟨qx1_0, qx1_1, qx1_2, qx1_3, qx1_4, qx1_5, qx1_6, qx1_7, qx1_8, qx1_9, qx1_10, qx1_11, qx1_12, qx1_13, qx1_14⟩ := x1.all
      go_wp2_with fail
      ((with_reducible refine (C1.out.of hG hb).mono ?_); rintro e w2 ⟨rfl, hb2⟩)
      clear qx1_0 qx1_1 qx1_2 qx1_3 qx1_4 qx1_5 qx1_6 qx1_7 qx1_8 qx1_9 qx1_10 qx1_11 qx1_12 qx1_13 qx1_14
      replace x1 := x1.below hb2
      replace hb := bto hb hb2
      obtain ⟨qx1_0, qx1_1, qx1_2, qx1_3, qx1_4, qx1_5, qx1_6, qx1_7, qx1_8, qx1_9, qx1_10, qx1_11, qx1_12, qx1_13, qx1_14⟩ := x1.all
      go_wp2
      go_ret
      exact ⟨reti HV.out.symm, hb⟩
    · have b2 : (x.kind != 5) = true := bneq' (intbne g2)
      have HV : Hid (fkE x = 7) := by show _ = _; unfold fkE; rw [if_neg (fun h => h g1), if_pos g2]
      clear g1 g2
      go_enter Tryz.func16, Tryz.ntmps16
      obtain ⟨qx1_0, qx1_1, qx1_2, qx1_3, qx1_4, qx1_5, qx1_6, qx1_7, qx1_8, qx1_9, qx1_10, qx1_11, qx1_12, qx1_13, qx1_14⟩ := x1.all
      go_wp2_with fail
      ((with_reducible refine (C1.out.of hG hb).mono ?_); rintro e w2 ⟨rfl, hb2⟩)
      clear qx1_0 qx1_1 qx1_2 qx1_3 qx1_4 qx1_5 qx1_6 qx1_7 qx1_8 qx1_9 qx1_10 qx1_11 qx1_12 qx1_13 qx1_14
      replace x1 := x1.below hb2
      replace hb := bto hb hb2
      obtain ⟨qx1_0, qx1_1, qx1_2, qx1_3, qx1_4, qx1_5, qx1_6, qx1_7, qx1_8, qx1_9, qx1_10, qx1_11, qx1_12, qx1_13, qx1_14⟩ := x1.all
      go_wp2
      go_ret
      exact ⟨reti HV.out.symm, hb⟩
  · have bk : (chkE x != 0) = true := bneq' (intbne g1)
    have HV : Hid (fkE x = chkE x) := by show _ = _; unfold fkE; rw [if_pos g1]
    generalize chkE x = E at *
    clear g1
    go_enter Tryz.func16, Tryz.ntmps16
    obtain ⟨qx1_0, qx1_1, qx1_2, qx1_3, qx1_4, qx1_5, qx1_6, qx1_7, qx1_8, qx1_9, qx1_10, qx1_11, qx1_12, qx1_13, qx1_14⟩ := x1.all
    go_wp2_with fail
    ((with_reducible refine (C1.out.of hG hb).mono ?_); rintro e w2 ⟨rfl, hb2⟩)
    clear qx1_0 qx1_1 qx1_2 qx1_3 qx1_4 qx1_5 qx1_6 qx1_7 qx1_8 qx1_9 qx1_10 qx1_11 qx1_12 qx1_13 qx1_14
    replace x1 := x1.below hb2
    replace hb := bto hb hb2
    obtain ⟨qx1_0, qx1_1, qx1_2, qx1_3, qx1_4, qx1_5, qx1_6, qx1_7, qx1_8, qx1_9, qx1_10, qx1_11, qx1_12, qx1_13, qx1_14⟩ := x1.all
    go_wp2
    go_ret
    exact ⟨reti HV.out.symm, hb⟩
set_option maxHeartbeats 8000000 in
set_option maxRecDepth 100000 in
theorem fFair (s d f y : Fp2) (hs : s.1.length ≤ 200 ∧ s.2.length ≤ 200) (hd : d.1.length ≤ 200 ∧ d.2.length ≤ 200) (hf : f.1.length ≤ 200 ∧ f.2.length ≤ 200) (hy : y.1.length ≤ 200 ∧ y.2.length ≤ 200) : Ret 27 #[(Value.agg #[Value.string ⟨List.toArray (s.1)⟩, Value.string ⟨List.toArray (s.2)⟩]), (Value.agg #[Value.string ⟨List.toArray (d.1)⟩, Value.string ⟨List.toArray (d.2)⟩]), (Value.agg #[Value.string ⟨List.toArray (f.1)⟩, Value.string ⟨List.toArray (f.2)⟩]), (Value.agg #[Value.string ⟨List.toArray (y.1)⟩, Value.string ⟨List.toArray (y.2)⟩])] (.tuple #[(Value.agg #[Value.string ⟨List.toArray (fN ((fairV s d f y).1))⟩, Value.string ⟨List.toArray (fD ((fairV s d f y).1))⟩]), .int .i64 (fairV s d f y).2]) := fun w hG => by
  have i_s := isq_raw hs.1 hs.2 (by decide)
  have b_s : Bd 200 (fv s.1 s.2) := bd_of hs (by decide)
  have i_d := isq_raw hd.1 hd.2 (by decide)
  have b_d : Bd 200 (fv d.1 d.2) := bd_of hd (by decide)
  have i_f := isq_raw hf.1 hf.2 (by decide)
  have b_f : Bd 200 (fv f.1 f.2) := bd_of hf (by decide)
  have i_y := isq_raw hy.1 hy.2 (by decide)
  have b_y : Bd 200 (fv y.1 y.2) := bd_of hy (by decide)
  have bu1 : Bd 402 (upQ d y) := bd_up hd hy (by decide) (by decide)
  have iu1 := isq_fr bu1 (by decide)
  have Gu1 := Lib.hid (fGrow i_d i_y (bd_mul b_d b_y) (by decide) (r := upQ d y) rfl)
  have bu2 : Bd 402 (upQ f y) := bd_up hf hy (by decide) (by decide)
  have iu2 := isq_fr bu2 (by decide)
  have Gu2 := Lib.hid (fGrow i_f i_y (bd_mul b_f b_y) (by decide) (r := upQ f y) rfl)
  obtain ⟨k0, e0⟩ : ∃ c, cmpQ (fv s.1 s.2) 0 = c := ⟨_, rfl⟩
  have S0 := Lib.hid (fSign i_s e0)
  have E0 := Lib.hid (cmpQ_sgn e0)
  obtain ⟨k1, e1⟩ : ∃ c, cmpQ (fv y.1 y.2) 0 = c := ⟨_, rfl⟩
  have S1 := Lib.hid (fSign i_y e1)
  have E1 := Lib.hid (cmpQ_sgn e1)
  obtain ⟨k2, e2⟩ : ∃ c, cmpQ (upQ d y) 0 = c := ⟨_, rfl⟩
  have S2 := Lib.hid (fSign iu1 e2)
  have E2 := Lib.hid (cmpQ_sgn e2)
  obtain ⟨k3, e3⟩ : ∃ c, cmpQ (upQ f y) 0 = c := ⟨_, rfl⟩
  have S3 := Lib.hid (fSign iu2 e3)
  have E3 := Lib.hid (cmpQ_sgn e3)
  have bm : Bd 602 (fv s.1 s.2 * upQ d y) := bd_mul b_s bu1
  have CM := Lib.hid (rMul i_s iu1 (r := fv s.1 s.2 * upQ d y) rfl)
  have CQ := Lib.hid (fun h0 => rQuo (isq_fr bm (by decide)) iu2 h0 (r := fv s.1 s.2 * upQ d y / upQ f y) rfl)
  clear i_s b_s i_d b_d i_f b_f i_y b_y iu1 bu1 iu2 bu2 e0 e1 e2 e3 bm
  go_enter Tryz.func27, Tryz.ntmps27
  go_wp2_with fail
  refine (fCanon _ [s, d, f, y] 4 4 _ (hG.below (bto (bto (bto (bto (bto (below_alloc _ _) (below_alloc _ _)) (below_alloc _ _)) (below_alloc _ _)) (below_alloc _ _)) (below_alloc _ _))) rfl (by decide) (frAt_of (by first | (simp; done) | (simp; omega)) (fun i hi => by
    have hi : i = 0 ∨ i = 1 ∨ i = 2 ∨ i = 3 := by simp at hi; omega
    rcases hi with rfl | rfl | rfl | rfl <;> simp [go_sem])) (fun q hq => by
    simp only [List.mem_cons, List.not_mem_nil, or_false] at hq
    rcases hq with rfl | rfl | rfl | rfl
    · exact ⟨Nat.le_trans hs.1 (by decide), Nat.le_trans hs.2 (by decide)⟩
    · exact ⟨Nat.le_trans hd.1 (by decide), Nat.le_trans hd.2 (by decide)⟩
    · exact ⟨Nat.le_trans hf.1 (by decide), Nat.le_trans hf.2 (by decide)⟩
    · exact ⟨Nat.le_trans hy.1 (by decide), Nat.le_trans hy.2 (by decide)⟩)).mono ?_
  rintro e w1 ⟨rfl, hb1⟩
  have x4 : FBox w1 (w.heap.size) (.string ⟨s.1.toArray⟩) (.string ⟨s.2.toArray⟩) := FBox.below ⟨by simp [go_sem], by simp [go_sem], by simp [go_sem], by simp [go_sem], by first | (simp; done) | (simp; omega)⟩ hb1
  have x5 : FBox w1 (w.heap.size + 1) (.string ⟨d.1.toArray⟩) (.string ⟨d.2.toArray⟩) := FBox.below ⟨by simp [go_sem], by simp [go_sem], by simp [go_sem], by simp [go_sem], by first | (simp; done) | (simp; omega)⟩ hb1
  have x6 : FBox w1 (w.heap.size + 2) (.string ⟨f.1.toArray⟩) (.string ⟨f.2.toArray⟩) := FBox.below ⟨by simp [go_sem], by simp [go_sem], by simp [go_sem], by simp [go_sem], by first | (simp; done) | (simp; omega)⟩ hb1
  have x7 : FBox w1 (w.heap.size + 3) (.string ⟨y.1.toArray⟩) (.string ⟨y.2.toArray⟩) := FBox.below ⟨by simp [go_sem], by simp [go_sem], by simp [go_sem], by simp [go_sem], by first | (simp; done) | (simp; omega)⟩ hb1
  have z8 : w1.heap[w.heap.size + 4]? = some (.cells #[.string ⟨#[]⟩, .string ⟨#[]⟩] 25) := (hb1.block _ (by first | (simp; done) | (simp; omega))).trans (by simp [World.alloc, Array.getElem_push, -World.alloc_eq])
  have hb : Below w.heap.size w w1 := bto (bto (bto (bto (bto (bto (below_alloc _ _) (below_alloc _ _)) (below_alloc _ _)) (below_alloc _ _)) (below_alloc _ _)) (below_alloc _ _)) hb1
  have n4 : ¬ (w.heap.size = w.heap.size + 4) := by omega
  have n5 : ¬ (w.heap.size + 1 = w.heap.size + 4) := by omega
  have n6 : ¬ (w.heap.size + 2 = w.heap.size + 4) := by omega
  have n7 : ¬ (w.heap.size + 3 = w.heap.size + 4) := by omega
  clear hb1
  by_cases gC : [s, d, f, y].all canB = true
  rotate_left
  · have q0 := (FBox.ofB z8).c0
    have q1 := (FBox.ofB z8).c1
    have q2 := (FBox.ofB z8).f0
    have q3 := (FBox.ofB z8).f1
    have HV : Hid (fairV s d f y = (0, 1)) := by show _ = _; unfold fairV; rw [if_pos gC]
    rw [not_true_b gC]
    clear gC
    go_wp2
    have hy := (FBox.ofB z8).set (.string ⟨#[]⟩) (.string ⟨#[]⟩)
    have d0 := hy.c0
    have d1 := hy.c1
    refine bodyPost_ret (v := .tuple #[.agg #[.string ⟨#[]⟩, .string ⟨#[]⟩], .int .i64 1]) (by simp [results, Tryz.results27, go_sem, d0, d1]) rfl ?_
    exact ⟨ret0 HV.out, below_set2 (b := w.heap.size + 4) hb (by omega) _ _⟩
  rw [gC]
  have HC := Lib.hid gC
  clear gC
  have hlt8 := (Array.getElem?_eq_some_iff.1 z8).1
  go_wp2_with fail
  refine wp_region_kept (by kernel_rfl) (by kernel_rfl) ?_
  refine kept_val _ (fun _ => rfl) (fun ρ w hw => by have q0 := (x5.below hw).c0; have q1 := (x5.below hw).c1; go_simp; first | done | with_reducible rfl) ?_
  simp only [Act.put, List.setIfInBounds_toArray, List.set_cons_zero, List.set_cons_succ, Nat.reduceAdd]
  refine kept_val _ (fun _ => rfl) (fun ρ w hw => by have q0 := (x7.below hw).c0; have q1 := (x7.below hw).c1; go_simp; first | done | with_reducible rfl) ?_
  simp only [Act.put, List.setIfInBounds_toArray, List.set_cons_zero, List.set_cons_succ, Nat.reduceAdd]
  refine kept_call _ _ _ (fun _ => rfl) (fun ρ w hw => by go_simp; first | done | with_reducible rfl) (fun w hw => Gu1.out.of hG (bto hb hw)) ?_
  simp only [Act.put, List.setIfInBounds_toArray, List.set_cons_zero, List.set_cons_succ, Nat.reduceAdd]
  refine kept_val _ (fun _ => rfl) (fun ρ w hw => by have q0 := (x6.below hw).c0; have q1 := (x6.below hw).c1; go_simp; first | done | with_reducible rfl) ?_
  simp only [Act.put, List.setIfInBounds_toArray, List.set_cons_zero, List.set_cons_succ, Nat.reduceAdd]
  refine kept_val _ (fun _ => rfl) (fun ρ w hw => by have q0 := (x7.below hw).c0; have q1 := (x7.below hw).c1; go_simp; first | done | with_reducible rfl) ?_
  simp only [Act.put, List.setIfInBounds_toArray, List.set_cons_zero, List.set_cons_succ, Nat.reduceAdd]
  refine kept_call _ _ _ (fun _ => rfl) (fun ρ w hw => by go_simp; first | done | with_reducible rfl) (fun w hw => Gu2.out.of hG (bto hb hw)) ?_
  iterate 2
    simp only [Act.put, List.setIfInBounds_toArray, List.set_cons_zero, List.set_cons_succ, Nat.reduceAdd]
    refine kept_box (fun b => .pointer (some ⟨b, 0, none⟩)) _ rfl (fun _ => rfl) (fun ρ w hw => by go_simp; first | done | with_reducible rfl) ?_
  simp only [Act.put, List.setIfInBounds_toArray, List.set_cons_zero, List.set_cons_succ, Nat.reduceAdd]
  refine kept_put2 6 _ 10 _ _ _ _ _ rfl rfl rfl (by decide) (fun _ => rfl) (fun ρ w hw q0 q1 q2 q3 => by go_simp; first | done | with_reducible rfl) ?_
  simp only [Act.put, Nat.reduceAdd]
  refine kept_put2 7 _ 11 _ _ _ _ _ rfl rfl rfl (by decide) (fun _ => rfl) (fun ρ w hw q0 q1 q2 q3 => by go_simp; first | done | with_reducible rfl) ?_
  simp only [Act.put, Nat.reduceAdd]
  refine kept_end (fun ρ w2 hF => ?_)
  replace z8 := (hF.below.block _ (Array.getElem?_eq_some_iff.1 z8).1).trans z8
  replace x4 := x4.below hF.below
  replace x5 := x5.below hF.below
  replace x6 := x6.below hF.below
  replace x7 := x7.below hF.below
  replace hb := bto hb hF.below
  have hge10 := (hF.box 6 _ _ rfl).1
  have hge11 := (hF.box 7 _ _ rfl).1
  have x10 := FBox.ofB (hF.box 6 _ _ rfl).2
  generalize ρ 6 = b10 at *
  have x11 := FBox.ofB (hF.box 7 _ _ rfl).2
  generalize ρ 7 = b11 at *
  clear hF
  by_cases g0 : k0 ≤ 0
  · have t0 : decide (k0 ≤ 0) = true := decide_eq_true g0
    have qx40 := x4.c0
    have qx41 := x4.c1
    go_wp2_with fail
    ((with_reducible refine (S0.out.of hG hb).mono ?_); rintro e ws0 ⟨rfl, hbs0⟩)
    replace x4 := x4.below hbs0
    replace x5 := x5.below hbs0
    replace x6 := x6.below hbs0
    replace x7 := x7.below hbs0
    replace x10 := x10.below hbs0
    replace x11 := x11.below hbs0
    replace z8 := (hbs0.block _ (Array.getElem?_eq_some_iff.1 z8).1).trans z8
    replace hb := bto hb hbs0
    clear hbs0
    clear qx40 qx41
    have q0 := (FBox.ofB z8).c0
    have q1 := (FBox.ofB z8).c1
    have q2 := (FBox.ofB z8).f0
    have q3 := (FBox.ofB z8).f1
    have HV : Hid (fairV s d f y = (0, 2)) := by show _ = _; unfold fairV; rw [if_neg (fun h => h HC.out), if_pos (show fairB s d f y = true from or4_1 (E0.out.1.1 g0))]
    clear g0
    go_wp2
    have hy := (FBox.ofB z8).set (.string ⟨#[]⟩) (.string ⟨#[]⟩)
    have d0 := hy.c0
    have d1 := hy.c1
    refine bodyPost_ret (v := .tuple #[.agg #[.string ⟨#[]⟩, .string ⟨#[]⟩], .int .i64 2]) (by simp [results, Tryz.results27, go_sem, d0, d1]) rfl ?_
    exact ⟨ret0 HV.out, below_set2 (b := w.heap.size + 4) hb (by omega) _ _⟩
  have t0 : decide (k0 ≤ 0) = false := decide_eq_false g0
  have G0 := Lib.hid (Int.not_le.1 g0)
  clear g0
  have qx40 := x4.c0
  have qx41 := x4.c1
  go_wp2_with fail
  ((with_reducible refine (S0.out.of hG hb).mono ?_); rintro e ws0 ⟨rfl, hbs0⟩)
  replace x4 := x4.below hbs0
  replace x5 := x5.below hbs0
  replace x6 := x6.below hbs0
  replace x7 := x7.below hbs0
  replace x10 := x10.below hbs0
  replace x11 := x11.below hbs0
  replace z8 := (hbs0.block _ (Array.getElem?_eq_some_iff.1 z8).1).trans z8
  replace hb := bto hb hbs0
  clear hbs0
  clear qx40 qx41
  by_cases g1 : k1 < 0
  · have t1 : decide (k1 < 0) = true := decide_eq_true g1
    have qx70 := x7.c0
    have qx71 := x7.c1
    go_wp2_with fail
    ((with_reducible refine (S1.out.of hG hb).mono ?_); rintro e ws1 ⟨rfl, hbs1⟩)
    replace x4 := x4.below hbs1
    replace x5 := x5.below hbs1
    replace x6 := x6.below hbs1
    replace x7 := x7.below hbs1
    replace x10 := x10.below hbs1
    replace x11 := x11.below hbs1
    replace z8 := (hbs1.block _ (Array.getElem?_eq_some_iff.1 z8).1).trans z8
    replace hb := bto hb hbs1
    clear hbs1
    clear qx70 qx71
    have q0 := (FBox.ofB z8).c0
    have q1 := (FBox.ofB z8).c1
    have q2 := (FBox.ofB z8).f0
    have q3 := (FBox.ofB z8).f1
    have HV : Hid (fairV s d f y = (0, 2)) := by show _ = _; unfold fairV; rw [if_neg (fun h => h HC.out), if_pos (show fairB s d f y = true from or4_2 (E1.out.2.1.1 g1))]
    clear g1
    go_wp2
    have hy := (FBox.ofB z8).set (.string ⟨#[]⟩) (.string ⟨#[]⟩)
    have d0 := hy.c0
    have d1 := hy.c1
    refine bodyPost_ret (v := .tuple #[.agg #[.string ⟨#[]⟩, .string ⟨#[]⟩], .int .i64 2]) (by simp [results, Tryz.results27, go_sem, d0, d1]) rfl ?_
    exact ⟨ret0 HV.out, below_set2 (b := w.heap.size + 4) hb (by omega) _ _⟩
  have t1 : decide (k1 < 0) = false := decide_eq_false g1
  have G1 := Lib.hid (Int.not_lt.1 g1)
  clear g1
  have qx70 := x7.c0
  have qx71 := x7.c1
  go_wp2_with fail
  ((with_reducible refine (S1.out.of hG hb).mono ?_); rintro e ws1 ⟨rfl, hbs1⟩)
  replace x4 := x4.below hbs1
  replace x5 := x5.below hbs1
  replace x6 := x6.below hbs1
  replace x7 := x7.below hbs1
  replace x10 := x10.below hbs1
  replace x11 := x11.below hbs1
  replace z8 := (hbs1.block _ (Array.getElem?_eq_some_iff.1 z8).1).trans z8
  replace hb := bto hb hbs1
  clear hbs1
  clear qx70 qx71
  by_cases g2 : k2 ≤ 0
  · have t2 : decide (k2 ≤ 0) = true := decide_eq_true g2
    have qx100 := x10.c0
    have qx101 := x10.c1
    go_wp2_with fail
    ((with_reducible refine (S2.out.of hG hb).mono ?_); rintro e ws2 ⟨rfl, hbs2⟩)
    replace x4 := x4.below hbs2
    replace x5 := x5.below hbs2
    replace x6 := x6.below hbs2
    replace x7 := x7.below hbs2
    replace x10 := x10.below hbs2
    replace x11 := x11.below hbs2
    replace z8 := (hbs2.block _ (Array.getElem?_eq_some_iff.1 z8).1).trans z8
    replace hb := bto hb hbs2
    clear hbs2
    clear qx100 qx101
    have q0 := (FBox.ofB z8).c0
    have q1 := (FBox.ofB z8).c1
    have q2 := (FBox.ofB z8).f0
    have q3 := (FBox.ofB z8).f1
    have HV : Hid (fairV s d f y = (0, 2)) := by show _ = _; unfold fairV; rw [if_neg (fun h => h HC.out), if_pos (show fairB s d f y = true from or4_3 (E2.out.1.1 g2))]
    clear g2
    go_wp2
    have hy := (FBox.ofB z8).set (.string ⟨#[]⟩) (.string ⟨#[]⟩)
    have d0 := hy.c0
    have d1 := hy.c1
    refine bodyPost_ret (v := .tuple #[.agg #[.string ⟨#[]⟩, .string ⟨#[]⟩], .int .i64 2]) (by simp [results, Tryz.results27, go_sem, d0, d1]) rfl ?_
    exact ⟨ret0 HV.out, below_set2 (b := w.heap.size + 4) hb (by omega) _ _⟩
  have t2 : decide (k2 ≤ 0) = false := decide_eq_false g2
  have G2 := Lib.hid (Int.not_le.1 g2)
  clear g2
  have qx100 := x10.c0
  have qx101 := x10.c1
  go_wp2_with fail
  ((with_reducible refine (S2.out.of hG hb).mono ?_); rintro e ws2 ⟨rfl, hbs2⟩)
  replace x4 := x4.below hbs2
  replace x5 := x5.below hbs2
  replace x6 := x6.below hbs2
  replace x7 := x7.below hbs2
  replace x10 := x10.below hbs2
  replace x11 := x11.below hbs2
  replace z8 := (hbs2.block _ (Array.getElem?_eq_some_iff.1 z8).1).trans z8
  replace hb := bto hb hbs2
  clear hbs2
  clear qx100 qx101
  by_cases g3 : k3 ≤ 0
  · have t3 : decide (k3 ≤ 0) = true := decide_eq_true g3
    have qx110 := x11.c0
    have qx111 := x11.c1
    go_wp2_with fail
    ((with_reducible refine (S3.out.of hG hb).mono ?_); rintro e ws3 ⟨rfl, hbs3⟩)
    replace x4 := x4.below hbs3
    replace x5 := x5.below hbs3
    replace x6 := x6.below hbs3
    replace x7 := x7.below hbs3
    replace x10 := x10.below hbs3
    replace x11 := x11.below hbs3
    replace z8 := (hbs3.block _ (Array.getElem?_eq_some_iff.1 z8).1).trans z8
    replace hb := bto hb hbs3
    clear hbs3
    clear qx110 qx111
    have q0 := (FBox.ofB z8).c0
    have q1 := (FBox.ofB z8).c1
    have q2 := (FBox.ofB z8).f0
    have q3 := (FBox.ofB z8).f1
    have HV : Hid (fairV s d f y = (0, 2)) := by show _ = _; unfold fairV; rw [if_neg (fun h => h HC.out), if_pos (show fairB s d f y = true from or4_4 (E3.out.1.1 g3))]
    clear g3
    go_wp2
    have hy := (FBox.ofB z8).set (.string ⟨#[]⟩) (.string ⟨#[]⟩)
    have d0 := hy.c0
    have d1 := hy.c1
    refine bodyPost_ret (v := .tuple #[.agg #[.string ⟨#[]⟩, .string ⟨#[]⟩], .int .i64 2]) (by simp [results, Tryz.results27, go_sem, d0, d1]) rfl ?_
    exact ⟨ret0 HV.out, below_set2 (b := w.heap.size + 4) hb (by omega) _ _⟩
  have t3 : decide (k3 ≤ 0) = false := decide_eq_false g3
  have G3 := Lib.hid (Int.not_le.1 g3)
  clear g3
  have qx110 := x11.c0
  have qx111 := x11.c1
  go_wp2_with fail
  ((with_reducible refine (S3.out.of hG hb).mono ?_); rintro e ws3 ⟨rfl, hbs3⟩)
  replace x4 := x4.below hbs3
  replace x5 := x5.below hbs3
  replace x6 := x6.below hbs3
  replace x7 := x7.below hbs3
  replace x10 := x10.below hbs3
  replace x11 := x11.below hbs3
  replace z8 := (hbs3.block _ (Array.getElem?_eq_some_iff.1 z8).1).trans z8
  replace hb := bto hb hbs3
  clear hbs3
  clear qx110 qx111
  have HB : Hid (¬ fairB s d f y = true) := or4_no (fun h => by have a := G0.out; have b := E0.out.1.2 h; omega) (fun h => by have a := G1.out; have b := E1.out.2.1.2 h; omega) (fun h => by have a := G2.out; have b := E2.out.1.2 h; omega) (fun h => by have a := G3.out; have b := E3.out.1.2 h; omega)
  have h0d : upQ f y ≠ 0 := fun h => by have a := G3.out; have b := E3.out.1.2 (by rw [h]; exact Rat.le_refl); omega
  replace CQ := Lib.hid (CQ.out h0d)
  have HV : Hid (fairV s d f y = (fv s.1 s.2 * upQ d y / upQ f y, 0)) := by show _ = _; unfold fairV; rw [if_neg (fun h => h HC.out), if_neg HB.out]
  clear h0d HB G0 G1 G2 G3 E0 E1 E2 E3
  generalize fv s.1 s.2 * upQ d y / upQ f y = QN at *
  generalize fv s.1 s.2 * upQ d y = MN at *
  have hX : ∀ k, k = w.heap.size + 4 → w.heap.size ≤ k := by rintro k rfl; omega
  have nx10 : ¬ (b10 = w.heap.size + 4) := by omega
  have nx11 : ¬ (b11 = w.heap.size + 4) := by omega
  have nx4 := n4
  have nx5 := n5
  have nx6 := n6
  have nx7 := n7
  go_wp2_with fail
  refine wp_region_kept_one 40 (w.heap.size + 4) 8 _ (by kernel_rfl) (by kernel_rfl) (by decide) z8 rfl ?_
  simp only [Act.put, List.setIfInBounds_toArray, List.set_cons_zero, List.set_cons_succ]
  refine kept_val _ (fun _ => rfl) (fun ρ w hw => by have q0 := (x4.keepX hw nx4).c0; have q1 := (x4.keepX hw nx4).c1; go_simp; first | done | with_reducible rfl) ?_
  simp only [Act.put, List.setIfInBounds_toArray, List.set_cons_zero, List.set_cons_succ, Nat.reduceAdd]
  refine kept_val _ (fun _ => rfl) (fun ρ w hw => by have q0 := (x10.keepX hw nx10).c0; have q1 := (x10.keepX hw nx10).c1; go_simp; first | done | with_reducible rfl) ?_
  simp only [Act.put, List.setIfInBounds_toArray, List.set_cons_zero, List.set_cons_succ, Nat.reduceAdd]
  refine kept_call _ _ _ (fun _ => rfl) (fun ρ w hw => by go_simp; first | done | with_reducible rfl) (fun w hw => CM.out.of hG (hw.lower hb hX)) ?_
  simp only [Act.put, List.setIfInBounds_toArray, List.set_cons_zero, List.set_cons_succ, Nat.reduceAdd]
  refine kept_val _ (fun _ => rfl) (fun ρ w hw => by have q0 := (x11.keepX hw nx11).c0; have q1 := (x11.keepX hw nx11).c1; go_simp; first | done | with_reducible rfl) ?_
  simp only [Act.put, List.setIfInBounds_toArray, List.set_cons_zero, List.set_cons_succ, Nat.reduceAdd]
  refine kept_call _ _ _ (fun _ => rfl) (fun ρ w hw => by go_simp; first | done | with_reducible rfl) (fun w hw => CQ.out.of hG (hw.lower hb hX)) ?_
  iterate 2
    simp only [Act.put, List.setIfInBounds_toArray, List.set_cons_zero, List.set_cons_succ, Nat.reduceAdd]
    refine kept_val _ (fun _ => rfl) (fun ρ w hw => by go_simp; first | done | with_reducible rfl) ?_
  simp only [Act.put, List.setIfInBounds_toArray, List.set_cons_zero, List.set_cons_succ, Nat.reduceAdd]
  refine kept_putK 40 _ _ _ _ _ rfl rfl (fun _ => rfl) (fun ρ w hw q0 q1 q2 q3 => by go_simp; first | done | with_reducible rfl) ?_
  simp only [Act.put, Nat.reduceAdd]
  refine kept_val _ (fun _ => rfl) (fun ρ w hw => by go_simp; first | done | with_reducible rfl) ?_
  simp only [Act.put, List.setIfInBounds_toArray, List.set_cons_zero, List.set_cons_succ, Nat.reduceAdd]
  refine kept_endX (fun ρ w90 hF => ?_)
  have hb9 := hF.below.lower hb hX
  have t8 := FBox.ofB (hF.box 40 _ _ rfl).2
  generalize ρ 40 = c8 at *
  clear hF
  have d0 := t8.c0
  have d1 := t8.c1
  go_wp2
  refine bodyPost_ret (v := .tuple #[(Value.agg #[Value.string ⟨List.toArray (fN QN)⟩, Value.string ⟨List.toArray (fD QN)⟩]), .int .i64 0]) (by simp [results, Tryz.results27, go_sem, d0, d1]) rfl ?_
  exact ⟨retq HV.out, hb9⟩
set_option maxHeartbeats 8000000 in
set_option maxRecDepth 100000 in
theorem fImplied (s r d y : Fp2) (hs : s.1.length ≤ 200 ∧ s.2.length ≤ 200) (hr : r.1.length ≤ 200 ∧ r.2.length ≤ 200) (hd : d.1.length ≤ 200 ∧ d.2.length ≤ 200) (hy : y.1.length ≤ 200 ∧ y.2.length ≤ 200) : Ret 29 #[(Value.agg #[Value.string ⟨List.toArray (s.1)⟩, Value.string ⟨List.toArray (s.2)⟩]), (Value.agg #[Value.string ⟨List.toArray (r.1)⟩, Value.string ⟨List.toArray (r.2)⟩]), (Value.agg #[Value.string ⟨List.toArray (d.1)⟩, Value.string ⟨List.toArray (d.2)⟩]), (Value.agg #[Value.string ⟨List.toArray (y.1)⟩, Value.string ⟨List.toArray (y.2)⟩])] (.tuple #[(Value.agg #[Value.string ⟨List.toArray (fN ((impV s r d y).1))⟩, Value.string ⟨List.toArray (fD ((impV s r d y).1))⟩]), .int .i64 (impV s r d y).2]) := fun w hG => by
  have i_s := isq_raw hs.1 hs.2 (by decide)
  have b_s : Bd 200 (fv s.1 s.2) := bd_of hs (by decide)
  have i_r := isq_raw hr.1 hr.2 (by decide)
  have b_r : Bd 200 (fv r.1 r.2) := bd_of hr (by decide)
  have i_d := isq_raw hd.1 hd.2 (by decide)
  have b_d : Bd 200 (fv d.1 d.2) := bd_of hd (by decide)
  have i_y := isq_raw hy.1 hy.2 (by decide)
  have b_y : Bd 200 (fv y.1 y.2) := bd_of hy (by decide)
  have bu1 : Bd 402 (upQ d y) := bd_up hd hy (by decide) (by decide)
  have iu1 := isq_fr bu1 (by decide)
  have Gu1 := Lib.hid (fGrow i_d i_y (bd_mul b_d b_y) (by decide) (r := upQ d y) rfl)
  obtain ⟨k0, e0⟩ : ∃ c, cmpQ (fv s.1 s.2) 0 = c := ⟨_, rfl⟩
  have S0 := Lib.hid (fSign i_s e0)
  have E0 := Lib.hid (cmpQ_sgn e0)
  obtain ⟨k1, e1⟩ : ∃ c, cmpQ (fv r.1 r.2) 0 = c := ⟨_, rfl⟩
  have S1 := Lib.hid (fSign i_r e1)
  have E1 := Lib.hid (cmpQ_sgn e1)
  obtain ⟨k2, e2⟩ : ∃ c, cmpQ (fv y.1 y.2) 0 = c := ⟨_, rfl⟩
  have S2 := Lib.hid (fSign i_y e2)
  have E2 := Lib.hid (cmpQ_sgn e2)
  obtain ⟨k3, e3⟩ : ∃ c, cmpQ (upQ d y) 0 = c := ⟨_, rfl⟩
  have S3 := Lib.hid (fSign iu1 e3)
  have E3 := Lib.hid (cmpQ_sgn e3)
  have bm : Bd 602 (fv s.1 s.2 * upQ d y) := bd_mul b_s bu1
  have CM := Lib.hid (rMul i_s iu1 (r := fv s.1 s.2 * upQ d y) rfl)
  have bq : Bd 802 (fv s.1 s.2 * upQ d y / fv r.1 r.2) := bd_div bm b_r (by decide)
  have CQ := Lib.hid (fun h0 => rQuo (isq_fr bm (by decide)) i_r h0 (r := fv s.1 s.2 * upQ d y / fv r.1 r.2) rfl)
  have CO := Lib.hid (rOf (l := [49]) (by decide) (show val [49] = 1 by decide))
  have b1 : Bd 1 ((1 : Int) : Rat) := by constructor <;> decide
  have bs1 : Bd 804 (fv s.1 s.2 * upQ d y / fv r.1 r.2 - ((1 : Int) : Rat)) := bd_sub bq b1
  have CS := Lib.hid (rSub (isq_fr bq (by decide)) (isq_fr b1 (by decide)) (r := fv s.1 s.2 * upQ d y / fv r.1 r.2 - ((1 : Int) : Rat)) rfl)
  have CR := Lib.hid (fun h0 => rQuo (isq_fr bs1 (by decide)) i_y h0 (r := (fv s.1 s.2 * upQ d y / fv r.1 r.2 - ((1 : Int) : Rat)) / fv y.1 y.2) rfl)
  clear i_s b_s i_r b_r i_d b_d i_y b_y iu1 bu1 e0 e1 e2 e3 bm bq b1 bs1
  go_enter Tryz.func29, Tryz.ntmps29
  go_wp2_with fail
  refine (fCanon _ [s, r, d, y] 4 4 _ (hG.below (bto (bto (bto (bto (bto (below_alloc _ _) (below_alloc _ _)) (below_alloc _ _)) (below_alloc _ _)) (below_alloc _ _)) (below_alloc _ _))) rfl (by decide) (frAt_of (by first | (simp; done) | (simp; omega)) (fun i hi => by
    have hi : i = 0 ∨ i = 1 ∨ i = 2 ∨ i = 3 := by simp at hi; omega
    rcases hi with rfl | rfl | rfl | rfl <;> simp [go_sem])) (fun q hq => by
    simp only [List.mem_cons, List.not_mem_nil, or_false] at hq
    rcases hq with rfl | rfl | rfl | rfl
    · exact ⟨Nat.le_trans hs.1 (by decide), Nat.le_trans hs.2 (by decide)⟩
    · exact ⟨Nat.le_trans hr.1 (by decide), Nat.le_trans hr.2 (by decide)⟩
    · exact ⟨Nat.le_trans hd.1 (by decide), Nat.le_trans hd.2 (by decide)⟩
    · exact ⟨Nat.le_trans hy.1 (by decide), Nat.le_trans hy.2 (by decide)⟩)).mono ?_
  rintro e w1 ⟨rfl, hb1⟩
  have x4 : FBox w1 (w.heap.size) (.string ⟨s.1.toArray⟩) (.string ⟨s.2.toArray⟩) := FBox.below ⟨by simp [go_sem], by simp [go_sem], by simp [go_sem], by simp [go_sem], by first | (simp; done) | (simp; omega)⟩ hb1
  have x5 : FBox w1 (w.heap.size + 1) (.string ⟨r.1.toArray⟩) (.string ⟨r.2.toArray⟩) := FBox.below ⟨by simp [go_sem], by simp [go_sem], by simp [go_sem], by simp [go_sem], by first | (simp; done) | (simp; omega)⟩ hb1
  have x6 : FBox w1 (w.heap.size + 2) (.string ⟨d.1.toArray⟩) (.string ⟨d.2.toArray⟩) := FBox.below ⟨by simp [go_sem], by simp [go_sem], by simp [go_sem], by simp [go_sem], by first | (simp; done) | (simp; omega)⟩ hb1
  have x7 : FBox w1 (w.heap.size + 3) (.string ⟨y.1.toArray⟩) (.string ⟨y.2.toArray⟩) := FBox.below ⟨by simp [go_sem], by simp [go_sem], by simp [go_sem], by simp [go_sem], by first | (simp; done) | (simp; omega)⟩ hb1
  have z8 : w1.heap[w.heap.size + 4]? = some (.cells #[.string ⟨#[]⟩, .string ⟨#[]⟩] 25) := (hb1.block _ (by first | (simp; done) | (simp; omega))).trans (by simp [World.alloc, Array.getElem_push, -World.alloc_eq])
  have hb : Below w.heap.size w w1 := bto (bto (bto (bto (bto (bto (below_alloc _ _) (below_alloc _ _)) (below_alloc _ _)) (below_alloc _ _)) (below_alloc _ _)) (below_alloc _ _)) hb1
  have n4 : ¬ (w.heap.size = w.heap.size + 4) := by omega
  have n5 : ¬ (w.heap.size + 1 = w.heap.size + 4) := by omega
  have n6 : ¬ (w.heap.size + 2 = w.heap.size + 4) := by omega
  have n7 : ¬ (w.heap.size + 3 = w.heap.size + 4) := by omega
  clear hb1
  by_cases gC : [s, r, d, y].all canB = true
  rotate_left
  · have q0 := (FBox.ofB z8).c0
    have q1 := (FBox.ofB z8).c1
    have q2 := (FBox.ofB z8).f0
    have q3 := (FBox.ofB z8).f1
    have HV : Hid (impV s r d y = (0, 1)) := by show _ = _; unfold impV; rw [if_pos gC]
    rw [not_true_b gC]
    clear gC
    go_wp2
    have hy := (FBox.ofB z8).set (.string ⟨#[]⟩) (.string ⟨#[]⟩)
    have d0 := hy.c0
    have d1 := hy.c1
    refine bodyPost_ret (v := .tuple #[.agg #[.string ⟨#[]⟩, .string ⟨#[]⟩], .int .i64 1]) (by simp [results, Tryz.results29, go_sem, d0, d1]) rfl ?_
    exact ⟨ret0 HV.out, below_set2 (b := w.heap.size + 4) hb (by omega) _ _⟩
  rw [gC]
  have HC := Lib.hid gC
  clear gC
  have hlt8 := (Array.getElem?_eq_some_iff.1 z8).1
  have q60 := x6.c0
  have q61 := x6.c1
  have q70 := x7.c0
  have q71 := x7.c1
  go_wp2_with fail
  ((with_reducible refine (Gu1.out.of hG hb).mono ?_); rintro e w2 ⟨rfl, hb2⟩)
  clear q60 q61 q70 q71
  have nx10 : ¬ (w2.heap.size = w.heap.size + 4) := by have := hb2.size; omega
  have hbA := below_alloc w2 (.cells #[.string ⟨(fN (upQ d y)).toArray⟩, .string ⟨(fD (upQ d y)).toArray⟩] 25)
  have x10 := FBox.new w2 (.string ⟨(fN (upQ d y)).toArray⟩) (.string ⟨(fD (upQ d y)).toArray⟩) 25
  have hbC := bto hb2 hbA
  replace x4 := x4.below hbC
  replace x5 := x5.below hbC
  replace x6 := x6.below hbC
  replace x7 := x7.below hbC
  replace z8 := (hbC.block _ (Array.getElem?_eq_some_iff.1 z8).1).trans z8
  replace hb := bto hb hbC
  clear hb2 hbA hbC
  by_cases g0 : k0 ≤ 0
  · have t0 : decide (k0 ≤ 0) = true := decide_eq_true g0
    have qx40 := x4.c0
    have qx41 := x4.c1
    go_wp2_with fail
    ((with_reducible refine (S0.out.of hG hb).mono ?_); rintro e ws0 ⟨rfl, hbs0⟩)
    replace x4 := x4.below hbs0
    replace x5 := x5.below hbs0
    replace x6 := x6.below hbs0
    replace x7 := x7.below hbs0
    replace x10 := x10.below hbs0
    replace z8 := (hbs0.block _ (Array.getElem?_eq_some_iff.1 z8).1).trans z8
    replace hb := bto hb hbs0
    clear hbs0
    clear qx40 qx41
    have q0 := (FBox.ofB z8).c0
    have q1 := (FBox.ofB z8).c1
    have q2 := (FBox.ofB z8).f0
    have q3 := (FBox.ofB z8).f1
    have HV : Hid (impV s r d y = (0, 2)) := by show _ = _; unfold impV; rw [if_neg (fun h => h HC.out), if_pos (show impB s r d y = true from or4_1 (E0.out.1.1 g0))]
    clear g0
    go_wp2
    have hy := (FBox.ofB z8).set (.string ⟨#[]⟩) (.string ⟨#[]⟩)
    have d0 := hy.c0
    have d1 := hy.c1
    refine bodyPost_ret (v := .tuple #[.agg #[.string ⟨#[]⟩, .string ⟨#[]⟩], .int .i64 2]) (by simp [results, Tryz.results29, go_sem, d0, d1]) rfl ?_
    exact ⟨ret0 HV.out, below_set2 (b := w.heap.size + 4) hb (by omega) _ _⟩
  have t0 : decide (k0 ≤ 0) = false := decide_eq_false g0
  have G0 := Lib.hid (Int.not_le.1 g0)
  clear g0
  have qx40 := x4.c0
  have qx41 := x4.c1
  go_wp2_with fail
  ((with_reducible refine (S0.out.of hG hb).mono ?_); rintro e ws0 ⟨rfl, hbs0⟩)
  replace x4 := x4.below hbs0
  replace x5 := x5.below hbs0
  replace x6 := x6.below hbs0
  replace x7 := x7.below hbs0
  replace x10 := x10.below hbs0
  replace z8 := (hbs0.block _ (Array.getElem?_eq_some_iff.1 z8).1).trans z8
  replace hb := bto hb hbs0
  clear hbs0
  clear qx40 qx41
  by_cases g1 : k1 ≤ 0
  · have t1 : decide (k1 ≤ 0) = true := decide_eq_true g1
    have qx50 := x5.c0
    have qx51 := x5.c1
    go_wp2_with fail
    ((with_reducible refine (S1.out.of hG hb).mono ?_); rintro e ws1 ⟨rfl, hbs1⟩)
    replace x4 := x4.below hbs1
    replace x5 := x5.below hbs1
    replace x6 := x6.below hbs1
    replace x7 := x7.below hbs1
    replace x10 := x10.below hbs1
    replace z8 := (hbs1.block _ (Array.getElem?_eq_some_iff.1 z8).1).trans z8
    replace hb := bto hb hbs1
    clear hbs1
    clear qx50 qx51
    have q0 := (FBox.ofB z8).c0
    have q1 := (FBox.ofB z8).c1
    have q2 := (FBox.ofB z8).f0
    have q3 := (FBox.ofB z8).f1
    have HV : Hid (impV s r d y = (0, 2)) := by show _ = _; unfold impV; rw [if_neg (fun h => h HC.out), if_pos (show impB s r d y = true from or4_2 (E1.out.1.1 g1))]
    clear g1
    go_wp2
    have hy := (FBox.ofB z8).set (.string ⟨#[]⟩) (.string ⟨#[]⟩)
    have d0 := hy.c0
    have d1 := hy.c1
    refine bodyPost_ret (v := .tuple #[.agg #[.string ⟨#[]⟩, .string ⟨#[]⟩], .int .i64 2]) (by simp [results, Tryz.results29, go_sem, d0, d1]) rfl ?_
    exact ⟨ret0 HV.out, below_set2 (b := w.heap.size + 4) hb (by omega) _ _⟩
  have t1 : decide (k1 ≤ 0) = false := decide_eq_false g1
  have G1 := Lib.hid (Int.not_le.1 g1)
  clear g1
  have qx50 := x5.c0
  have qx51 := x5.c1
  go_wp2_with fail
  ((with_reducible refine (S1.out.of hG hb).mono ?_); rintro e ws1 ⟨rfl, hbs1⟩)
  replace x4 := x4.below hbs1
  replace x5 := x5.below hbs1
  replace x6 := x6.below hbs1
  replace x7 := x7.below hbs1
  replace x10 := x10.below hbs1
  replace z8 := (hbs1.block _ (Array.getElem?_eq_some_iff.1 z8).1).trans z8
  replace hb := bto hb hbs1
  clear hbs1
  clear qx50 qx51
  by_cases g2 : k2 < 0
  · have t2 : decide (k2 < 0) = true := decide_eq_true g2
    have qx70 := x7.c0
    have qx71 := x7.c1
    go_wp2_with fail
    ((with_reducible refine (S2.out.of hG hb).mono ?_); rintro e ws2 ⟨rfl, hbs2⟩)
    replace x4 := x4.below hbs2
    replace x5 := x5.below hbs2
    replace x6 := x6.below hbs2
    replace x7 := x7.below hbs2
    replace x10 := x10.below hbs2
    replace z8 := (hbs2.block _ (Array.getElem?_eq_some_iff.1 z8).1).trans z8
    replace hb := bto hb hbs2
    clear hbs2
    clear qx70 qx71
    have q0 := (FBox.ofB z8).c0
    have q1 := (FBox.ofB z8).c1
    have q2 := (FBox.ofB z8).f0
    have q3 := (FBox.ofB z8).f1
    have HV : Hid (impV s r d y = (0, 2)) := by show _ = _; unfold impV; rw [if_neg (fun h => h HC.out), if_pos (show impB s r d y = true from or4_3 (E2.out.2.1.1 g2))]
    clear g2
    go_wp2
    have hy := (FBox.ofB z8).set (.string ⟨#[]⟩) (.string ⟨#[]⟩)
    have d0 := hy.c0
    have d1 := hy.c1
    refine bodyPost_ret (v := .tuple #[.agg #[.string ⟨#[]⟩, .string ⟨#[]⟩], .int .i64 2]) (by simp [results, Tryz.results29, go_sem, d0, d1]) rfl ?_
    exact ⟨ret0 HV.out, below_set2 (b := w.heap.size + 4) hb (by omega) _ _⟩
  have t2 : decide (k2 < 0) = false := decide_eq_false g2
  have G2 := Lib.hid (Int.not_lt.1 g2)
  clear g2
  have qx70 := x7.c0
  have qx71 := x7.c1
  go_wp2_with fail
  ((with_reducible refine (S2.out.of hG hb).mono ?_); rintro e ws2 ⟨rfl, hbs2⟩)
  replace x4 := x4.below hbs2
  replace x5 := x5.below hbs2
  replace x6 := x6.below hbs2
  replace x7 := x7.below hbs2
  replace x10 := x10.below hbs2
  replace z8 := (hbs2.block _ (Array.getElem?_eq_some_iff.1 z8).1).trans z8
  replace hb := bto hb hbs2
  clear hbs2
  clear qx70 qx71
  by_cases g3 : k3 ≤ 0
  · have t3 : decide (k3 ≤ 0) = true := decide_eq_true g3
    have qx100 := x10.c0
    have qx101 := x10.c1
    go_wp2_with fail
    ((with_reducible refine (S3.out.of hG hb).mono ?_); rintro e ws3 ⟨rfl, hbs3⟩)
    replace x4 := x4.below hbs3
    replace x5 := x5.below hbs3
    replace x6 := x6.below hbs3
    replace x7 := x7.below hbs3
    replace x10 := x10.below hbs3
    replace z8 := (hbs3.block _ (Array.getElem?_eq_some_iff.1 z8).1).trans z8
    replace hb := bto hb hbs3
    clear hbs3
    clear qx100 qx101
    have q0 := (FBox.ofB z8).c0
    have q1 := (FBox.ofB z8).c1
    have q2 := (FBox.ofB z8).f0
    have q3 := (FBox.ofB z8).f1
    have HV : Hid (impV s r d y = (0, 2)) := by show _ = _; unfold impV; rw [if_neg (fun h => h HC.out), if_pos (show impB s r d y = true from or4_4 (E3.out.1.1 g3))]
    clear g3
    go_wp2
    have hy := (FBox.ofB z8).set (.string ⟨#[]⟩) (.string ⟨#[]⟩)
    have d0 := hy.c0
    have d1 := hy.c1
    refine bodyPost_ret (v := .tuple #[.agg #[.string ⟨#[]⟩, .string ⟨#[]⟩], .int .i64 2]) (by simp [results, Tryz.results29, go_sem, d0, d1]) rfl ?_
    exact ⟨ret0 HV.out, below_set2 (b := w.heap.size + 4) hb (by omega) _ _⟩
  have t3 : decide (k3 ≤ 0) = false := decide_eq_false g3
  have G3 := Lib.hid (Int.not_le.1 g3)
  clear g3
  have qx100 := x10.c0
  have qx101 := x10.c1
  go_wp2_with fail
  ((with_reducible refine (S3.out.of hG hb).mono ?_); rintro e ws3 ⟨rfl, hbs3⟩)
  replace x4 := x4.below hbs3
  replace x5 := x5.below hbs3
  replace x6 := x6.below hbs3
  replace x7 := x7.below hbs3
  replace x10 := x10.below hbs3
  replace z8 := (hbs3.block _ (Array.getElem?_eq_some_iff.1 z8).1).trans z8
  replace hb := bto hb hbs3
  clear hbs3
  clear qx100 qx101
  have HB : Hid (¬ impB s r d y = true) := or4_no (fun h => by have a := G0.out; have b := E0.out.1.2 h; omega) (fun h => by have a := G1.out; have b := E1.out.1.2 h; omega) (fun h => by have a := G2.out; have b := E2.out.2.1.2 h; omega) (fun h => by have a := G3.out; have b := E3.out.1.2 h; omega)
  have h0r : fv r.1 r.2 ≠ 0 := fun h => by have a := G1.out; have b := E1.out.1.2 (by rw [h]; exact Rat.le_refl); omega
  replace CQ := Lib.hid (CQ.out h0r)
  by_cases gy : k2 = 0
  · have ty : (k2 == 0) = true := intbeq gy
    have qx0 := x7.c0
    have qx1 := x7.c1
    go_wp2_with fail
    ((with_reducible refine (S2.out.of hG hb).mono ?_); rintro e wz ⟨rfl, hbz⟩)
    replace x4 := x4.below hbz
    replace x5 := x5.below hbz
    replace x6 := x6.below hbz
    replace x7 := x7.below hbz
    replace x10 := x10.below hbz
    replace z8 := (hbz.block _ (Array.getElem?_eq_some_iff.1 z8).1).trans z8
    replace hb := bto hb hbz
    clear hbz
    clear qx0 qx1
    have q0 := (FBox.ofB z8).c0
    have q1 := (FBox.ofB z8).c1
    have q2 := (FBox.ofB z8).f0
    have q3 := (FBox.ofB z8).f1
    have HV : Hid (impV s r d y = (0, 10)) := by show _ = _; unfold impV; rw [if_neg (fun h => h HC.out), if_neg HB.out, if_pos (E2.out.2.2.1 gy)]
    clear gy
    go_wp2
    have hy := (FBox.ofB z8).set (.string ⟨#[]⟩) (.string ⟨#[]⟩)
    have d0 := hy.c0
    have d1 := hy.c1
    refine bodyPost_ret (v := .tuple #[.agg #[.string ⟨#[]⟩, .string ⟨#[]⟩], .int .i64 10]) (by simp [results, Tryz.results29, go_sem, d0, d1]) rfl ?_
    exact ⟨ret0 HV.out, below_set2 (b := w.heap.size + 4) hb (by omega) _ _⟩
  have h0y : fv y.1 y.2 ≠ 0 := fun h => gy (E2.out.2.2.2 h)
  have HY := Lib.hid h0y
  have ty : (k2 == 0) = false := intbne gy
  clear gy h0y
  have qx0 := x7.c0
  have qx1 := x7.c1
  go_wp2_with fail
  ((with_reducible refine (S2.out.of hG hb).mono ?_); rintro e wz ⟨rfl, hbz⟩)
  replace x4 := x4.below hbz
  replace x5 := x5.below hbz
  replace x6 := x6.below hbz
  replace x7 := x7.below hbz
  replace x10 := x10.below hbz
  replace z8 := (hbz.block _ (Array.getElem?_eq_some_iff.1 z8).1).trans z8
  replace hb := bto hb hbz
  clear hbz
  clear qx0 qx1
  have h0y := HY.out
  replace CR := Lib.hid (CR.out h0y)
  have HV : Hid (impV s r d y = ((fv s.1 s.2 * upQ d y / fv r.1 r.2 - ((1 : Int) : Rat)) / fv y.1 y.2, 0)) := by show _ = _; unfold impV; rw [if_neg (fun h => h HC.out), if_neg HB.out, if_neg h0y]; rfl
  clear h0r h0y HB G0 G1 G2 G3 E0 E1 E2 E3
  generalize (fv s.1 s.2 * upQ d y / fv r.1 r.2 - ((1 : Int) : Rat)) / fv y.1 y.2 = QN at *
  generalize fv s.1 s.2 * upQ d y / fv r.1 r.2 - ((1 : Int) : Rat) = SN at *
  generalize fv s.1 s.2 * upQ d y / fv r.1 r.2 = RN at *
  generalize fv s.1 s.2 * upQ d y = MN at *
  generalize ((1 : Int) : Rat) = ON at *
  have hlt9 := (Array.getElem?_eq_some_iff.1 z8).1
  go_wp2_with fail
  refine wp_region_kept (by kernel_rfl) (by kernel_rfl) ?_
  refine kept_val _ (fun _ => rfl) (fun ρ w hw => by have q0 := (x4.below hw).c0; have q1 := (x4.below hw).c1; go_simp; first | done | with_reducible rfl) ?_
  simp only [Act.put, List.setIfInBounds_toArray, List.set_cons_zero, List.set_cons_succ, Nat.reduceAdd]
  refine kept_val _ (fun _ => rfl) (fun ρ w hw => by have q0 := (x10.below hw).c0; have q1 := (x10.below hw).c1; go_simp; first | done | with_reducible rfl) ?_
  simp only [Act.put, List.setIfInBounds_toArray, List.set_cons_zero, List.set_cons_succ, Nat.reduceAdd]
  refine kept_call _ _ _ (fun _ => rfl) (fun ρ w hw => by go_simp; first | done | with_reducible rfl) (fun w hw => CM.out.of hG (bto hb hw)) ?_
  simp only [Act.put, List.setIfInBounds_toArray, List.set_cons_zero, List.set_cons_succ, Nat.reduceAdd]
  refine kept_val _ (fun _ => rfl) (fun ρ w hw => by have q0 := (x5.below hw).c0; have q1 := (x5.below hw).c1; go_simp; first | done | with_reducible rfl) ?_
  simp only [Act.put, List.setIfInBounds_toArray, List.set_cons_zero, List.set_cons_succ, Nat.reduceAdd]
  refine kept_call _ _ _ (fun _ => rfl) (fun ρ w hw => by go_simp; first | done | with_reducible rfl) (fun w hw => CQ.out.of hG (bto hb hw)) ?_
  iterate 3
    simp only [Act.put, List.setIfInBounds_toArray, List.set_cons_zero, List.set_cons_succ, Nat.reduceAdd]
    refine kept_val _ (fun _ => rfl) (fun ρ w hw => by go_simp; first | done | with_reducible rfl) ?_
  simp only [Act.put, List.setIfInBounds_toArray, List.set_cons_zero, List.set_cons_succ, Nat.reduceAdd]
  refine kept_box (fun b => .pointer (some ⟨b, 0, none⟩)) _ rfl (fun _ => rfl) (fun ρ w hw => by go_simp; first | done | with_reducible rfl) ?_
  simp only [Act.put, List.setIfInBounds_toArray, List.set_cons_zero, List.set_cons_succ, Nat.reduceAdd]
  refine kept_put2 8 _ 11 _ _ _ _ _ rfl rfl rfl (by decide) (fun _ => rfl) (fun ρ w hw q0 q1 q2 q3 => by go_simp; first | done | with_reducible rfl) ?_
  simp only [Act.put, Nat.reduceAdd]
  refine kept_val _ (fun _ => rfl) (fun ρ w hw => by go_simp; first | done | with_reducible rfl) ?_
  simp only [Act.put, List.setIfInBounds_toArray, List.set_cons_zero, List.set_cons_succ, Nat.reduceAdd]
  refine kept_end (fun ρ w51 hF => ?_)
  replace z8 := (hF.below.block _ (Array.getElem?_eq_some_iff.1 z8).1).trans z8
  replace x4 := x4.below hF.below
  replace x5 := x5.below hF.below
  replace x6 := x6.below hF.below
  replace x7 := x7.below hF.below
  replace x10 := x10.below hF.below
  replace hb := bto hb hF.below
  have hge11 := (hF.box 8 _ _ rfl).1
  have x11 := FBox.ofB (hF.box 8 _ _ rfl).2
  generalize ρ 8 = b11 at *
  clear hF
  have hX : ∀ k, k = w.heap.size + 4 → w.heap.size ≤ k := by rintro k rfl; omega
  have nx11 : ¬ (b11 = w.heap.size + 4) := by omega
  have nx4 := n4
  have nx5 := n5
  have nx6 := n6
  have nx7 := n7
  go_wp2_with fail
  refine wp_region_kept_one 40 (w.heap.size + 4) 8 _ (by kernel_rfl) (by kernel_rfl) (by decide) z8 rfl ?_
  simp only [Act.put, List.setIfInBounds_toArray, List.set_cons_zero, List.set_cons_succ]
  refine kept_val _ (fun _ => rfl) (fun ρ w hw => by have q0 := (x11.keepX hw nx11).c0; have q1 := (x11.keepX hw nx11).c1; go_simp; first | done | with_reducible rfl) ?_
  simp only [Act.put, List.setIfInBounds_toArray, List.set_cons_zero, List.set_cons_succ, Nat.reduceAdd]
  refine kept_call _ _ _ (fun _ => rfl) (fun ρ w hw => by go_simp; first | done | with_reducible rfl) (fun w hw => CO.out.of hG (hw.lower hb hX)) ?_
  simp only [Act.put, List.setIfInBounds_toArray, List.set_cons_zero, List.set_cons_succ, Nat.reduceAdd]
  refine kept_call _ _ _ (fun _ => rfl) (fun ρ w hw => by go_simp; first | done | with_reducible rfl) (fun w hw => CS.out.of hG (hw.lower hb hX)) ?_
  simp only [Act.put, List.setIfInBounds_toArray, List.set_cons_zero, List.set_cons_succ, Nat.reduceAdd]
  refine kept_val _ (fun _ => rfl) (fun ρ w hw => by have q0 := (x7.keepX hw nx7).c0; have q1 := (x7.keepX hw nx7).c1; go_simp; first | done | with_reducible rfl) ?_
  simp only [Act.put, List.setIfInBounds_toArray, List.set_cons_zero, List.set_cons_succ, Nat.reduceAdd]
  refine kept_call _ _ _ (fun _ => rfl) (fun ρ w hw => by go_simp; first | done | with_reducible rfl) (fun w hw => CR.out.of hG (hw.lower hb hX)) ?_
  iterate 2
    simp only [Act.put, List.setIfInBounds_toArray, List.set_cons_zero, List.set_cons_succ, Nat.reduceAdd]
    refine kept_val _ (fun _ => rfl) (fun ρ w hw => by go_simp; first | done | with_reducible rfl) ?_
  simp only [Act.put, List.setIfInBounds_toArray, List.set_cons_zero, List.set_cons_succ, Nat.reduceAdd]
  refine kept_putK 40 _ _ _ _ _ rfl rfl (fun _ => rfl) (fun ρ w hw q0 q1 q2 q3 => by go_simp; first | done | with_reducible rfl) ?_
  simp only [Act.put, Nat.reduceAdd]
  refine kept_val _ (fun _ => rfl) (fun ρ w hw => by go_simp; first | done | with_reducible rfl) ?_
  simp only [Act.put, List.setIfInBounds_toArray, List.set_cons_zero, List.set_cons_succ, Nat.reduceAdd]
  refine kept_endX (fun ρ w90 hF => ?_)
  have hb9 := hF.below.lower hb hX
  have t8 := FBox.ofB (hF.box 40 _ _ rfl).2
  generalize ρ 40 = c8 at *
  clear hF
  have d0 := t8.c0
  have d1 := t8.c1
  go_wp2
  refine bodyPost_ret (v := .tuple #[(Value.agg #[Value.string ⟨List.toArray (fN QN)⟩, Value.string ⟨List.toArray (fD QN)⟩]), .int .i64 0]) (by simp [results, Tryz.results29, go_sem, d0, d1]) rfl ?_
  exact ⟨retq HV.out, hb9⟩
end Go.Proofs.YtgnppdkeiihlfaaGreatDoor
namespace Go.Proofs.YtgnppdkeiihlfaaGreatDoor
open Go.RowKit
abbrev SG := (Nat → Value) → Act
abbrev BG' := Nat → Option (World → Value → Prop)
inductive OutG where
  | val (v : Value)
  | new (R : World → Value → Prop)
def OutG.at (i : Nat) (ρ : Nat → Value) : OutG → Value
  | .val v => v
  | .new _ => ρ i
def OutG.bx (i : Nat) (B : BG') : OutG → BG'
  | .val _ => B
  | .new R => fun k => if k = i then some R else B k
def OutG.pre (i : Nat) (B : BG') : OutG → Prop
  | .val _ => True
  | .new _ => B i = none
def updG (ρ : Nat → Value) (i : Nat) (v : Value) : Nat → Value := fun k => if k = i then v else ρ k
def valUponG (P : Program) (w : World) (v : Value) : Result Next → Prop
  | .ok (.value u) w' => w' = w ∧ u = v
  | .ok .skip w' => w' = w ∧ v = undef
  | .ok (.enter f args) w' => w' = w ∧ Calls P f args w (fun e w'' => e = .returned v ∧ Below w.heap.size w w'')
  | _ => False
def newUponG (P : Program) (w : World) (R : World → Value → Prop) : Result Next → Prop
  | .ok (.value u) w' => Below w.heap.size w w' ∧ R w' u
  | .ok (.enter f args) w' => w' = w ∧ Calls P f args w (fun e w'' => ∃ u, e = .returned u ∧ Below w.heap.size w w'' ∧ R w'' u)
  | _ => False
def Kn (ks : List Nat) (ρ : Nat → Value) (B : BG') (w : World) : Prop := ∀ k ∈ ks, ∀ R, B k = some R → R w (ρ k)
section
variable {P : Program} {ops : Array Oper} {md : Region.Mode} {C : World → Prop}
def LeansOn (ops : Array Oper) (o : Oper) (ks : List Nat) : Prop := ∀ k ∈ ks, ∃ ok d, ops[k]? = some ok ∧ ok.dst = some d ∧ d ∈ o.looksAt ops
def YieldsG (P : Program) (ops : Array Oper) (C : World → Prop) (o : Oper) (ks : List Nat) (a : SG) (B : BG') : OutG → Prop
  | .val v => (∀ ρ, Region.wanted o (yielded ops (a ρ).tmps) = true ∧ ∀ w, C w → Kn ks ρ B w → valUponG P w v ((execOp (a ρ).eval o).run P w)) ∨ ((∀ ρ, Region.wanted o (yielded ops (a ρ).tmps) = false) ∧ v = undef)
  | .new R => (∀ w w' u, R w u → Below w.heap.size w w' → R w' u) ∧ ∀ ρ, Region.wanted o (yielded ops (a ρ).tmps) = true ∧ ∀ w, C w → Kn ks ρ B w → newUponG P w R ((execOp (a ρ).eval o).run P w)
theorem YieldsG.of_same {o : Oper} {ks : List Nat} {x : OutG} {a a' : SG} {B B' : BG'} (hy : YieldsG P ops C o ks a B x) (he : ∀ ρ, execOp (a' ρ).eval o = execOp (a ρ).eval o)
    (hw : ∀ ρ, Region.wanted o (yielded ops (a' ρ).tmps) = Region.wanted o (yielded ops (a ρ).tmps)) (hk : ∀ ρ w, Kn ks ρ B' w → Kn ks ρ B w) : YieldsG P ops C o ks a' B' x := by
  cases x with
  | val v =>
    rcases hy with hy | ⟨h1, h2⟩
    · exact .inl fun ρ => ⟨by rw [hw]; exact (hy ρ).1, fun w hc hn => by rw [he]; exact (hy ρ).2 w hc (hk ρ w hn)⟩
    · exact .inr ⟨fun ρ => by rw [hw]; exact h1 ρ, h2⟩
  | new R => exact ⟨hy.1, fun ρ => ⟨by rw [hw]; exact (hy.2 ρ).1, fun w hc hn => by rw [he]; exact (hy.2 ρ).2 w hc (hk ρ w hn)⟩⟩
def gOp (P : Program) (ops : Array Oper) (C : World → Prop) (i : Nat) (K : SG → BG' → Prop) (a : SG) (B : BG') : Prop :=
  match ops[i]? with
  | none => K a B
  | some o => ∃ (x : OutG) (ks : List Nat), x.pre i B ∧ LeansOn ops o ks ∧ YieldsG P ops C o ks a B x ∧ K (fun ρ => (a ρ).put o.dst (x.at i ρ)) (x.bx i B)
theorem gOp_mono {i : Nat} {a : SG} {B : BG'} {K K' : SG → BG' → Prop} (h : ∀ a B, K a B → K' a B) (hh : gOp P ops C i K a B) : gOp P ops C i K' a B := by
  unfold gOp at *
  split
  · exact h _ _ (by simpa [*] using hh)
  · rename_i o ho
    simp only [ho] at hh
    obtain ⟨x, ks, h0, hl, h1, h2⟩ := hh
    exact ⟨x, ks, h0, hl, h1, h _ _ h2⟩
def wpAnyG (P : Program) (md : Region.Mode) (ops : Array Oper) (C : World → Prop) (Q : SG → BG' → Prop) : Nat → Array Bool → SG → BG' → Prop
  | 0, listed, a, B => Region.ready md ops listed = [] ∧ Q a B
  | fuel + 1, listed, a, B =>
    (Region.ready md ops listed = [] → Q a B) ∧
    ∀ i ∈ Region.ready md ops listed, gOp P ops C i (wpAnyG P md ops C Q fuel (listed.setIfInBounds i true)) a B
theorem bg_move {i j : Nat} (h : i ≠ j) (x y : OutG) (B : BG') : y.bx j (x.bx i B) = x.bx i (y.bx j B) := by
  cases x <;> cases y <;> try rfl
  funext k
  simp only [OutG.bx]
  by_cases h1 : k = j
  · rw [if_pos h1, if_neg (by omega), if_pos h1]
  · rw [if_neg h1]
    by_cases h2 : k = i
    · rw [if_pos h2, if_pos h2]
    · rw [if_neg h2, if_neg h2, if_neg h1]
theorem pre_move {i j : Nat} (h : i ≠ j) (x y : OutG) (B : BG') (hx : x.pre i B) (hy : y.pre j (x.bx i B)) : y.pre j B ∧ x.pre i (y.bx j B) := by
  cases x <;> cases y <;> simp only [OutG.pre, OutG.bx] at * <;> first | exact ⟨trivial, trivial⟩ | exact ⟨hy, trivial⟩ | exact ⟨trivial, hx⟩ | (rw [if_neg (Ne.symm h)] at hy; exact ⟨hy, by rw [if_neg h]; exact hx⟩)
theorem gOp_put {i j : Nat} {oi oj : Oper} {x : OutG} {ks : List Nat} (hij : i ≠ j) (hi : ops[i]? = some oi) (hj : ops[j]? = some oj) (hap : oi.apart ops oj = true)
    (hsi : ∀ cs b, oi.op ≠ .select cs b) (hsj : ∀ cs b, oj.op ≠ .select cs b) {K : SG → BG' → Prop} {a : SG} {B : BG'}
    (hp : x.pre i B) (_hl : LeansOn ops oi ks) (hy : YieldsG P ops C oi ks a B x) (h : gOp P ops C j K (fun ρ => (a ρ).put oi.dst (x.at i ρ)) (x.bx i B)) :
    gOp P ops C j (fun a' B' => x.pre i B' ∧ YieldsG P ops C oi ks a' B' x ∧ K (fun ρ => (a' ρ).put oi.dst (x.at i ρ)) (x.bx i B')) a B := by
  obtain ⟨h1, h2, h3⟩ := Oper.apart_spec hap
  unfold gOp at *
  simp only [hj] at *
  obtain ⟨y, js, hp', hl', hy', hK⟩ := h
  obtain ⟨m1, m2⟩ := pre_move hij x y B hp hp'
  refine ⟨y, js, m1, hl', hy'.of_same (fun ρ => (execOp_put oj hsj (a ρ) oi.dst _ h1).symm) (fun ρ => (wanted_put oj (a ρ) oi.dst _ h1).symm) (fun ρ w hn k hk R hR => ?_), m2,
    hy.of_same (fun ρ => execOp_put oi hsi (a ρ) oj.dst _ h3) (fun ρ => wanted_put oi (a ρ) oj.dst _ h3) (fun ρ w hn k hk R hR => hn k hk R ?_), ?_⟩
  · cases x with
    | val v => exact hn k hk R hR
    | new R' =>
      simp only [OutG.bx] at hR
      by_cases hki : k = i
      · exfalso
        obtain ⟨ok, d, e1, e2, e3⟩ := hl' k hk
        rw [hki, hi] at e1
        injection e1 with e1
        subst e1
        exact h1 d e2 e3
      · rw [if_neg hki] at hR
        exact hn k hk R hR
  · cases y with
    | val v => exact hR
    | new R' =>
      simp only [OutG.bx, OutG.pre] at m1 ⊢
      have hkj : k ≠ j := fun e => by rw [e, m1] at hR; cases hR
      rw [if_neg hkj]; exact hR
  have e1 : (fun ρ => ((a ρ).put oj.dst (y.at j ρ)).put oi.dst (x.at i ρ)) = fun ρ => ((a ρ).put oi.dst (x.at i ρ)).put oj.dst (y.at j ρ) := by
    funext ρ; exact (Act.put_comm (a ρ) _ _ h2).symm
  rw [e1, ← bg_move hij]
  exact hK
theorem wpAnyG_first {Q : SG → BG' → Prop} {i : Nat} {oi : Oper} {x : OutG} {ks : List Nat} (hi : ops[i]? = some oi) (hl : LeansOn ops oi ks) (hsel : ∀ (j : Nat) (o : Oper) cs b, ops[j]? = some o → o.op ≠ .select cs b) :
    ∀ (fuel : Nat) (listed : Array Bool) (a : SG) (B : BG'),
      (∀ j oj, ops[j]? = some oj → j ≠ i → listed.getD j true = false → (∀ e ∈ oj.after, Region.binds md e = true → e.on ≠ i) → oi.apart ops oj = true) →
      i ∈ Region.ready md ops listed → x.pre i B → YieldsG P ops C oi ks a B x →
      wpAnyG P md ops C Q fuel (listed.setIfInBounds i true) (fun ρ => (a ρ).put oi.dst (x.at i ρ)) (x.bx i B) → wpAnyG P md ops C Q (fuel + 1) listed a B := by
  intro fuel
  induction fuel with
  | zero =>
    intro listed a B _ hr hp hy H
    refine ⟨fun h => (by rw [h] at hr; cases hr), fun j hj => ?_⟩
    by_cases hji : j = i
    · subst hji; unfold gOp; simp only [hi]; exact ⟨x, ks, hp, hl, hy, H⟩
    · have := ready_mono hj hji
      rw [H.1] at this
      cases this
  | succ fuel ih =>
    intro listed a B hfree hr hp hy H
    refine ⟨fun h => (by rw [h] at hr; cases hr), fun j hj => ?_⟩
    by_cases hji : j = i
    · subst hji; unfold gOp; simp only [hi]; exact ⟨x, ks, hp, hl, hy, H⟩
    · have h1 := H.2 j (ready_mono hj hji)
      obtain ⟨hjun, oj, hoj, hall⟩ := mem_ready.1 hj
      have hnot : ∀ e ∈ oj.after, Region.binds md e = true → e.on ≠ i := fun e he hb heq => by
        have h1 := hall e he hb
        have h0 := (mem_ready.1 hr).1
        rw [heq] at h1
        rcases Nat.lt_or_ge i listed.size with h' | h'
        · simp [h'] at h0 h1; rw [h0] at h1; cases h1
        · simp [Array.getElem?_eq_none h'] at h1
      have h2 := gOp_put (Ne.symm hji) hi hoj (hfree j oj hoj hji hjun hnot) (fun cs b => hsel i oi cs b hi) (fun cs b => hsel j oj cs b hoj) hp hl hy h1
      have hfree' : ∀ k ok, ops[k]? = some ok → k ≠ i → (listed.setIfInBounds j true).getD k true = false →
          (∀ e ∈ ok.after, Region.binds md e = true → e.on ≠ i) → oi.apart ops ok = true := fun k ok hk hki hun hno => by
        refine hfree k ok hk hki ?_ hno
        by_cases hjk : j = k
        · subst hjk; exact hjun
        · rw [getD_set_ne true hjk] at hun; exact hun
      refine gOp_mono (fun a' B' h3 => ih (listed.setIfInBounds j true) a' B' hfree' (ready_mono hr (Ne.symm hji)) h3.1 h3.2.1 ?_) h2
      rw [Array.setIfInBounds_comm _ _ hji]
      exact h3.2.2
def wpGain (P : Program) (ops : Array Oper) (C : World → Prop) (Q : SG → BG' → Prop) : List Oper → Nat → SG → BG' → Prop
  | [], _, a, B => Q a B
  | o :: rest, i, a, B => ∃ (x : OutG) (ks : List Nat), x.pre i B ∧ LeansOn ops o ks ∧ YieldsG P ops C o ks a B x ∧ wpGain P ops C Q rest (i + 1) (fun ρ => (a ρ).put o.dst (x.at i ρ)) (x.bx i B)
theorem wpAnyG_lex {Q : SG → BG' → Prop} (hs : Region.noSelect ops = true) : ∀ (l : List Oper) (k : Nat) (listed : Array Bool) (a : SG) (B : BG'), (∀ j, l[j]? = ops[k + j]?) →
    Region.lexFrom md ops l.length k listed = true → wpGain P ops C Q l k a B → wpAnyG P md ops C Q l.length listed a B
  | [], _, _, _, _, _, hB, h => ⟨by simpa [Region.lexFrom] using hB, h⟩
  | o :: l, k, listed, a, B, hl, hB, h => by
    have h0 : ops[k]? = some o := by simpa using (hl 0).symm
    simp only [List.length_cons, Region.lexFrom, Bool.and_eq_true] at hB
    obtain ⟨⟨hr, hf⟩, hB'⟩ := hB
    obtain ⟨x, ks, hp, hle, hy, hK⟩ := h
    exact wpAnyG_first h0 hle (Region.noSelect_spec hs) l.length listed a B (Region.free_spec h0 hf) (by simpa using hr) hp hy
      (wpAnyG_lex hs l (k + 1) _ _ _ (fun j => by have := hl (j + 1); simpa [Nat.add_assoc, Nat.add_comm 1 j] using this) hB' hK)
structure FitsG (w0 : World) (ρ : Nat → Value) (B : BG') (w : World) : Prop where
  below : Below w0.heap.size w0 w
  box : ∀ i R, B i = some R → R w (ρ i) ∧ ∀ w w' u, R w u → Below w.heap.size w w' → R w' u
theorem FitsG.kn {w0 w : World} {ρ : Nat → Value} {B : BG'} (h : FitsG w0 ρ B w) (ks : List Nat) : Kn ks ρ B w := fun k _ R hR => (h.box k R hR).1
theorem FitsG.go {w0 w w' : World} {ρ : Nat → Value} {B : BG'} (h : FitsG w0 ρ B w) (hb : Below w.heap.size w w') : FitsG w0 ρ B w' :=
  ⟨h.below.trans (hb.mono h.below.size), fun i R hi => ⟨(h.box i R hi).2 _ _ _ (h.box i R hi).1 hb, (h.box i R hi).2⟩⟩
theorem FitsG.new {w0 w w' : World} {ρ : Nat → Value} {B : BG'} (h : FitsG w0 ρ B w) (hb : Below w.heap.size w w') (i : Nat) {R : World → Value → Prop} {u : Value} (hR : R w' u) (hs : ∀ w w' u, R w u → Below w.heap.size w w' → R w' u) :
    FitsG w0 (updG ρ i u) ((OutG.new R).bx i B) w' := by
  have h' := h.go hb
  refine ⟨h'.below, fun k R' hk => ?_⟩
  simp only [OutG.bx, updG] at *
  by_cases hki : k = i
  · rw [if_pos hki] at hk ⊢
    injection hk with hk
    subst hk
    exact ⟨hR, hs⟩
  · rw [if_neg hki] at hk ⊢
    exact h'.box k R' hk
def FreeG (listed : Array Bool) (a : SG) : Prop := ∀ (i : Nat) (ρ : Nat → Value) (b : Value), listed.getD i true = false → a (updG ρ i b) = a ρ
theorem FreeG.put {listed : Array Bool} {a : SG} (h : FreeG listed a) {i : Nat} (hi : listed.getD i true = false) (d : Option Tmp) (x : OutG) :
    FreeG (listed.setIfInBounds i true) (fun ρ => (a ρ).put d (x.at i ρ)) := by
  intro k ρ b hk
  have hlt : i < listed.size := by
    rcases Nat.lt_or_ge i listed.size with h' | h'
    · exact h'
    · simp [Array.getElem?_eq_none h'] at hi
  have hki : k ≠ i := fun e => by subst e; simp [hlt] at hk
  have hk' : listed.getD k true = false := by rwa [getD_set_ne true (Ne.symm hki)] at hk
  show (a (updG ρ k b)).put d _ = _
  rw [h k ρ b hk']
  cases x with
  | val v => rfl
  | new R =>
    show (a ρ).put d (updG ρ k b i) = (a ρ).put d (ρ i)
    have : updG ρ k b i = ρ i := if_neg (Ne.symm hki)
    rw [this]
theorem wpAny_of_gain {w0 : World} {Q : SG → BG' → Prop} {Q' : Exit → Act → World → Prop} (hQ : ∀ a B ρ w, FitsG w0 ρ B w → Q a B → Q' .normal (a ρ) w) :
    ∀ (fuel : Nat) (listed : Array Bool) (a : SG) (B : BG') (ρ : Nat → Value) (w : World), FitsG w0 ρ B w → FreeG listed a →
    wpAnyG P md ops (fun w => Below w0.heap.size w0 w) Q fuel listed a B → wpAny P md ops Q' fuel listed (a ρ) w
  | 0, _, _, _, _, _, hf, _, h => ⟨h.1, hQ _ _ _ _ hf h.2⟩
  | fuel + 1, listed, a, B, ρ, w, hf, hfr, h => by
    refine ⟨fun h0 => hQ _ _ _ _ hf (h.1 h0), fun i hi => ?_⟩
    have h1 := h.2 i hi
    obtain ⟨hun, o, ho, _⟩ := mem_ready.1 hi
    unfold gOp at h1
    simp only [ho] at h1
    obtain ⟨x, ks, hp, hle, hy, hK⟩ := h1
    have hkn := hf.kn ks
    have hfr' := hfr.put hun o.dst x
    unfold wpOp
    simp only [ho]
    cases x with
    | val v =>
      simp only [YieldsG] at hy
      rcases hy with hy | ⟨hw, rfl⟩
      · obtain ⟨hw, hr⟩ := hy ρ
        simp only [hw, if_true]
        refine .inl ?_
        have h3 := hr w hf.below hkn
        unfold Oper.wp
        generalize (execOp (a ρ).eval o).run P w = r at *
        cases r with
        | ok n w' =>
          cases n <;> simp only [valUponG] at h3 <;> simp only [Oper.upon]
          case value u =>
            obtain ⟨e1, e2⟩ := h3
            rw [e1, e2]
            exact wpAny_of_gain hQ fuel _ _ B ρ w hf hfr' hK
          case skip =>
            obtain ⟨e1, e2⟩ := h3
            rw [e1, ← e2]
            exact wpAny_of_gain hQ fuel _ _ B ρ w hf hfr' hK
          case enter f args =>
            obtain ⟨e1, hc⟩ := h3
            rw [e1]
            exact hc.mono fun e w'' ⟨he, hw''⟩ => by subst he; exact wpAny_of_gain hQ fuel _ _ B ρ w'' (hf.go hw'') hfr' hK
        | halt x w' => simp only [valUponG] at h3
      · simp only [hw ρ, Bool.false_eq_true, if_false]
        exact wpAny_of_gain hQ fuel _ _ B ρ w hf hfr' hK
    | new R =>
      simp only [YieldsG] at hy
      obtain ⟨hs, hy⟩ := hy
      obtain ⟨hw, hr⟩ := hy ρ
      simp only [hw, if_true]
      refine .inl ?_
      have h3 := hr w hf.below hkn
      have key : ∀ u w', Below w.heap.size w w' → R w' u → wpAny P md ops Q' fuel (listed.setIfInBounds i true) ((a ρ).put o.dst u) w' := fun u w' hb hR => by
        have h5 := wpAny_of_gain hQ fuel _ _ _ (updG ρ i u) w' (hf.new hb i hR hs) hfr' hK
        have e1 : (a (updG ρ i u)).put o.dst ((OutG.new R).at i (updG ρ i u)) = (a ρ).put o.dst u := by
          show (a (updG ρ i u)).put o.dst (updG ρ i u i) = _
          rw [hfr i ρ _ hun]
          have : updG ρ i u i = u := if_pos rfl
          rw [this]
        rwa [e1] at h5
      unfold Oper.wp
      generalize (execOp (a ρ).eval o).run P w = r at *
      cases r with
      | ok n w' =>
        cases n <;> simp only [newUponG] at h3 <;> simp only [Oper.upon]
        case value u => exact key u w' h3.1 h3.2
        case enter f args =>
          obtain ⟨e1, hc⟩ := h3
          rw [e1]
          exact hc.mono fun e w'' ⟨u, he, hw'', hR⟩ => by subst he; exact key u w'' hw'' hR
      | halt x w' => simp only [newUponG] at h3
theorem wp_region_gain {id : Nat} {Q : Exit → Act → World → Prop} {a : Act} {w : World} {l : List Oper} (hm : P.follows .mixedOrders = true) (hB : Region.lexB .any l.toArray = true)
    (h : wpGain P l.toArray (fun w' => Below w.heap.size w w') (fun a' B => ∀ ρ w', FitsG w ρ B w' → Q .normal (a' ρ) w') l 0 (fun _ => a) (fun _ => none)) : (Code.region id l.toArray true).wp P Q a w := by
  simp only [Region.lexB, Bool.and_eq_true] at hB
  refine wp_region_any hm ?_
  have hf : FitsG w (fun _ => undef) (fun _ => none) { w with drawn := w.drawn + 1 } :=
    ⟨⟨rfl, rfl, rfl, Nat.le_refl _, fun _ _ => rfl⟩, fun _ _ h => (by cases h)⟩
  refine wpAny_of_gain (Q := fun a' B => ∀ ρ w', FitsG w ρ B w' → Q .normal (a' ρ) w') (fun a' B ρ w' hf' h' => h' ρ w' hf') _ _ (fun _ => a) (fun _ => none) (fun _ => undef) _ hf (fun _ _ _ _ => rfl) ?_
  have := wpAnyG_lex (C := fun w' => Below w.heap.size w w') (md := .any) hB.1 l 0 (Array.replicate l.toArray.size false) (fun _ => a) (fun _ => none) (by simp) (by simpa using hB.2) h
  simpa using this
variable {Q : SG → BG' → Prop} {o : Oper} {rest : List Oper} {i : Nat} {a : SG} {B : BG'}
theorem leans_nil {o : Oper} : LeansOn ops o [] := fun _ h => absurd h (by simp)
theorem leans_one {o : Oper} {k : Nat} (ok : Oper) (d : Tmp) (h1 : ops[k]? = some ok) (h2 : ok.dst = some d) (h3 : d ∈ o.looksAt ops) : LeansOn ops o [k] := fun j hj => by
  rw [List.mem_singleton.1 hj]; exact ⟨ok, d, h1, h2, h3⟩
theorem gain_val (v : Value) (hw : ∀ ρ, Region.wanted o (yielded ops (a ρ).tmps) = true) (h : ∀ ρ w, C w → (execOp (a ρ).eval o).run P w = .ok (.value v) w)
    (hn : wpGain P ops C Q rest (i + 1) (fun ρ => (a ρ).put o.dst v) B) : wpGain P ops C Q (o :: rest) i a B :=
  ⟨.val v, [], trivial, leans_nil, .inl fun ρ => ⟨hw ρ, fun w hc _ => by rw [h ρ w hc]; exact ⟨rfl, rfl⟩⟩, hn⟩
theorem gain_off (hw : ∀ ρ, Region.wanted o (yielded ops (a ρ).tmps) = false) (hn : wpGain P ops C Q rest (i + 1) (fun ρ => (a ρ).put o.dst undef) B) : wpGain P ops C Q (o :: rest) i a B :=
  ⟨.val undef, [], trivial, leans_nil, .inr ⟨hw, rfl⟩, hn⟩
theorem gain_call (f : FuncId) (args : Array Value) (v : Value) (hw : ∀ ρ, Region.wanted o (yielded ops (a ρ).tmps) = true) (h : ∀ ρ w, C w → (execOp (a ρ).eval o).run P w = .ok (.enter f args) w)
    (hc : ∀ w, C w → Calls P f args w fun e w' => e = .returned v ∧ Below w.heap.size w w')
    (hn : wpGain P ops C Q rest (i + 1) (fun ρ => (a ρ).put o.dst v) B) : wpGain P ops C Q (o :: rest) i a B :=
  ⟨.val v, [], trivial, leans_nil, .inl fun ρ => ⟨hw ρ, fun w hC _ => by rw [h ρ w hC]; exact ⟨rfl, hc w hC⟩⟩, hn⟩
theorem gain_new (f : FuncId) (args : Array Value) (R : World → Value → Prop) (hp : B i = none) (hs : ∀ w w' u, R w u → Below w.heap.size w w' → R w' u) (hw : ∀ ρ, Region.wanted o (yielded ops (a ρ).tmps) = true) (h : ∀ ρ w, C w → (execOp (a ρ).eval o).run P w = .ok (.enter f args) w)
    (hc : ∀ w, C w → Calls P f args w fun e w' => ∃ u, e = .returned u ∧ Below w.heap.size w w' ∧ R w' u)
    (hn : wpGain P ops C Q rest (i + 1) (fun ρ => (a ρ).put o.dst (ρ i)) (fun k => if k = i then some R else B k)) : wpGain P ops C Q (o :: rest) i a B :=
  ⟨.new R, [], hp, leans_nil, ⟨hs, fun ρ => ⟨hw ρ, fun w hC _ => by rw [h ρ w hC]; exact ⟨rfl, hc w hC⟩⟩⟩, hn⟩
theorem gain_box (mk : Nat → Value) (ob : Obj) (hp : B i = none) (hw : ∀ ρ, Region.wanted o (yielded ops (a ρ).tmps) = true) (h : ∀ ρ w, C w → (execOp (a ρ).eval o).run P w = .ok (.value (mk w.heap.size)) (w.alloc ob))
    (hn : wpGain P ops C Q rest (i + 1) (fun ρ => (a ρ).put o.dst (ρ i)) (fun k => if k = i then some (fun w u => ∃ b, u = mk b ∧ w.heap[b]? = some ob) else B k)) : wpGain P ops C Q (o :: rest) i a B :=
  ⟨.new (fun w u => ∃ b, u = mk b ∧ w.heap[b]? = some ob), [], hp, leans_nil, ⟨fun w w' u ⟨b, e, h1⟩ hb => ⟨b, e, (hb.block _ (Array.getElem?_eq_some_iff.1 h1).1).trans h1⟩, fun ρ => ⟨hw ρ, fun w hc _ => by
    rw [h ρ w hc]
    exact ⟨below_alloc w ob, w.heap.size, rfl, heap_alloc_new w ob⟩⟩⟩, hn⟩
theorem gain_callN (k : Nat) (R : World → Value → Prop) (v : Value) (ok : Oper) (d : Tmp) (hB : B k = some R) (h1 : ops[k]? = some ok) (h2 : ok.dst = some d) (h3 : d ∈ o.looksAt ops) (hw : ∀ ρ, Region.wanted o (yielded ops (a ρ).tmps) = true)
    (h : ∀ ρ w, C w → R w (ρ k) → ∃ f args, (execOp (a ρ).eval o).run P w = .ok (.enter f args) w ∧ Calls P f args w fun e w' => e = .returned v ∧ Below w.heap.size w w')
    (hn : wpGain P ops C Q rest (i + 1) (fun ρ => (a ρ).put o.dst v) B) : wpGain P ops C Q (o :: rest) i a B :=
  ⟨.val v, [k], trivial, leans_one ok d h1 h2 h3, .inl fun ρ => ⟨hw ρ, fun w hC hk => by
    obtain ⟨f, args, e, hc⟩ := h ρ w hC (hk k (by simp) R hB)
    rw [e]; exact ⟨rfl, hc⟩⟩, hn⟩
theorem gain_valN (k : Nat) (R : World → Value → Prop) (v : Value) (ok : Oper) (d : Tmp) (hB : B k = some R) (h1 : ops[k]? = some ok) (h2 : ok.dst = some d) (h3 : d ∈ o.looksAt ops) (hw : ∀ ρ, Region.wanted o (yielded ops (a ρ).tmps) = true)
    (h : ∀ ρ w, C w → R w (ρ k) → (execOp (a ρ).eval o).run P w = .ok (.value v) w)
    (hn : wpGain P ops C Q rest (i + 1) (fun ρ => (a ρ).put o.dst v) B) : wpGain P ops C Q (o :: rest) i a B :=
  ⟨.val v, [k], trivial, leans_one ok d h1 h2 h3, .inl fun ρ => ⟨hw ρ, fun w hC hk => by
    rw [h ρ w hC (hk k (by simp) R hB)]; exact ⟨rfl, rfl⟩⟩, hn⟩
theorem gain_newN (k : Nat) (R R' : World → Value → Prop) (ok : Oper) (d : Tmp) (hp : B i = none) (hs : ∀ w w' u, R' w u → Below w.heap.size w w' → R' w' u) (hB : B k = some R) (h1 : ops[k]? = some ok) (h2 : ok.dst = some d) (h3 : d ∈ o.looksAt ops) (hw : ∀ ρ, Region.wanted o (yielded ops (a ρ).tmps) = true)
    (h : ∀ ρ w, C w → R w (ρ k) → ∃ u, (execOp (a ρ).eval o).run P w = .ok (.value u) w ∧ R' w u)
    (hn : wpGain P ops C Q rest (i + 1) (fun ρ => (a ρ).put o.dst (ρ i)) (fun l => if l = i then some R' else B l)) : wpGain P ops C Q (o :: rest) i a B :=
  ⟨.new R', [k], hp, leans_one ok d h1 h2 h3, ⟨hs, fun ρ => ⟨hw ρ, fun w hC hk => by
    obtain ⟨u, e, hu⟩ := h ρ w hC (hk k (by simp) R hB)
    rw [e]; exact ⟨Below.refl _ _, hu⟩⟩⟩, hn⟩
end
section
variable {P : Program} {ops : Array Oper} {C : World → Prop} {Q : St → Bx → Prop} {o : Oper} {rest : List Oper} {i : Nat} {a : St} {B : Bx}
theorem turned_row (w : World) (b : Nat) (old cells : Array Value) (t : TypeId) (h : w.heap[b]? = some (.cells old t (0, 0))) : Turned w (w.setRow b cells) b (.cells cells t (0, 0)) :=
  ⟨rfl, rfl, rfl, by simp [World.setRow], setRow_heap w b old cells t (0, 0) h, fun k hk => setRow_other w b k cells hk⟩
theorem kept_putRow (k : Nat) (old cells : Array Value) (t ty : TypeId) (x y : Operand) (hp : B k = some (false, .cells old t (0, 0))) (hk : ops[k]? = none) (ho : o.op = .store ty x y)
    (hw : ∀ ρ, Region.wanted o (yielded ops (a ρ).tmps) = true) (hx : ∀ ρ, (a ρ).eval x = .pointer (some ⟨ρ k, 0, none⟩)) (hy : ∀ ρ, (a ρ).eval y = .agg cells)
    (hi : (P.info? ty).map (·.size) = some cells.size) (hs : old.size = cells.size) (h1 : cells.all (·.oneCell') = true)
    (hn : wpKept P ops C Q rest (i + 1) (fun ρ => (a ρ).put o.dst undef) (fun l => if l = k then some (true, .cells cells t (0, 0)) else B l)) : wpKept P ops C Q (o :: rest) i a B :=
  ⟨.put k (.cells old t (0, 0)) (.cells cells t (0, 0)), hp, ⟨.inl hk, fun ρ => ⟨hw ρ, fun w hc hb => ⟨w.setRow (ρ k) cells, by
    unfold execOp
    simp only [ho, hx, hy, Instr.storeAt, Instr.sureAddr, Sem.run_bind, Sem.run_pure, Result.andThen_ok, run_storeVar_row w (ρ k) t ty old cells hb hi hs h1], turned_row w (ρ k) old cells t hb⟩⟩⟩, hn⟩
end
end Go.Proofs.YtgnppdkeiihlfaaGreatDoor
