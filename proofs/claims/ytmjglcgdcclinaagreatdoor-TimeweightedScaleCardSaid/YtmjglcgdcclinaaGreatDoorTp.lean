/- Plain: points as numbers; how great growth, gain and capital become. -/
import Derived.Test.YtmjglcgdcclinaaGreatDoorTa
import Derived.Test.YtmjglcgdcclinaaGreatDoorPt
import Derived.Test.YtmjglcgdcclinaaGreatDoorTb
namespace Go.Proofs.YtmjglcgdcclinaaGreatDoor
open Num
def ptZ (t : Pnt) : PT := (t.day, val t.vl, val t.fl)
def pts (ts : List Pnt) : List PT := ts.map ptZ
theorem pts_len (ts : List Pnt) : (pts ts).length = ts.length := List.length_map _
theorem pts_drop (ts : List Pnt) (k : Nat) : pts (ts.drop k) = (pts ts).drop k := List.map_drop ..
theorem pts_take (ts : List Pnt) (k : Nat) : pts (ts.take k) = (pts ts).take k := List.map_take ..
/-- days that increase -/
def UpD : Option Int → List Pnt → Prop
  | _, [] => True
  | o, p :: r => ordB o p.day = false ∧ UpD (some p.day) r
structure PntOk (t : Pnt) : Prop where
  day : -25567 ≤ t.day ∧ t.day ≤ 84005
  cv : t.vl = canon (val t.vl)
  cf : t.fl = canon (val t.fl)
  lv : t.vl.length ≤ 41
  lf : t.fl.length ≤ 41
  nn : 0 ≤ val t.vl
theorem digN_len {l : List UInt8} (h : ¬ longB l = true) : l.length ≤ 41 := by
  have h2 : ¬ 40 < digN l := fun h3 => h (decide_eq_true h3)
  cases l with
  | nil => exact Nat.zero_le _
  | cons c t =>
    rw [List.length_cons]
    have e : digN (c :: t) = if c.toNat = 45 then (t.length : Int) else t.length + 1 := rfl
    rw [e] at h2
    split at h2 <;> omega
theorem pntL_ok : ∀ (ts : List Pnt) (o : Option Int), pntL o ts = 0 → PosL (pts ts) ∧ UpD o ts ∧ ∀ t ∈ ts, PntOk t
  | [], _, _ => ⟨trivial, trivial, fun _ h => by cases h⟩
  | p :: r, o, h => by
    unfold pntL at h
    by_cases g1 : dayB p.day = false
    · rw [if_pos g1] at h; cases h
    rw [if_neg g1] at h
    by_cases g2 : p.vl = canon (val p.vl)
    rotate_left
    · rw [if_pos g2] at h; cases h
    rw [if_neg (fun h => h g2)] at h
    by_cases g3 : p.fl = canon (val p.fl)
    rotate_left
    · rw [if_pos g3] at h; cases h
    rw [if_neg (fun h => h g3)] at h
    by_cases g7 : longB p.vl = true
    · rw [if_pos g7] at h; cases h
    rw [if_neg g7] at h
    by_cases g8 : longB p.fl = true
    · rw [if_pos g8] at h; cases h
    rw [if_neg g8] at h
    by_cases g4 : ordB o p.day = true
    · rw [if_pos g4] at h; cases h
    rw [if_neg g4] at h
    by_cases g5 : val p.vl < 0
    · rw [if_pos g5] at h; cases h
    rw [if_neg g5] at h
    by_cases g6 : r ≠ [] ∧ val p.vl + val p.fl ≤ 0
    · rw [if_pos g6] at h; cases h
    rw [if_neg g6] at h
    obtain ⟨i1, i2, i3⟩ := pntL_ok r (some p.day) h
    refine ⟨?_, ⟨by simpa using g4, i2⟩, fun t ht => ?_⟩
    · cases r with
      | nil => exact trivial
      | cons q s =>
        refine ⟨?_, i1⟩
        show 0 < val p.vl + val p.fl
        have : ¬ val p.vl + val p.fl ≤ 0 := fun h => g6 ⟨by simp, h⟩
        omega
    · rcases List.mem_cons.1 ht with rfl | ht
      · refine ⟨?_, g2, g3, digN_len g7, digN_len g8, by omega⟩
        unfold dayB at g1
        simp only [Bool.and_eq_false_iff, decide_eq_false_iff_not, not_or, Decidable.not_not] at g1
        exact g1
      · exact i3 t ht
theorem pntE_ok {ts : List Pnt} (h : pntE ts = 0) : 1 ≤ ts.length ∧ ts.length ≤ 400 ∧ PosL (pts ts) ∧ UpD none ts ∧ ∀ t ∈ ts, PntOk t := by
  unfold pntE at h
  by_cases h0 : ts.length = 0
  · rw [if_pos h0] at h; cases h
  rw [if_neg h0] at h
  by_cases h1 : 400 < ts.length
  · rw [if_pos h1] at h; cases h
  rw [if_neg h1] at h
  exact ⟨by omega, by omega, pntL_ok ts none h⟩
/-! the growth factors -/
theorem facs_two (p q : PT) (r : List PT) : facs (p :: q :: r) = Rat.divInt q.2.1 (p.2.1 + p.2.2) :: facs (q :: r) := rfl
theorem facs_len : ∀ l : List PT, (facs l).length = l.length - 1
  | [] => rfl
  | [_] => rfl
  | p :: q :: r => by
    rw [facs_two, List.length_cons, facs_len (q :: r)]
    simp
theorem facs_step {ts : List Pnt} {k : Nat} {p q : Pnt} (hp : ts[k]? = some p) (hq : ts[k + 1]? = some q) : facs (pts (ts.drop k)) = Rat.divInt (val q.vl) (val p.vl + val p.fl) :: facs (pts (ts.drop (k + 1))) := by
  obtain ⟨h1, rfl⟩ := List.getElem?_eq_some_iff.1 hp
  obtain ⟨h2, rfl⟩ := List.getElem?_eq_some_iff.1 hq
  rw [List.drop_eq_getElem_cons h1, List.drop_eq_getElem_cons h2]; rfl
theorem facs_end {ts : List Pnt} {k : Nat} (h : ts.length ≤ k + 1) : facs (pts (ts.drop k)) = [] := by
  have h1 : (ts.drop k).length ≤ 1 := by rw [List.length_drop]; omega
  match hd : ts.drop k, h1 with
  | [], _ => rfl
  | [_], _ => rfl
  | _ :: _ :: _, h => simp at h
theorem posL_at : ∀ {ts : List Pnt} {k : Nat} {p q : Pnt}, PosL (pts ts) → ts[k]? = some p → ts[k + 1]? = some q → 0 < val p.vl + val p.fl
  | [], k, p, q, _, h, _ => by simp at h
  | [a], k, p, q, _, _, h => by simp at h
  | a :: b :: r, 0, p, q, h, hp, _ => by
    have : a = p := by simpa using hp
    subst this; exact h.1
  | a :: b :: r, k + 1, p, q, h, hp, hq => posL_at (ts := b :: r) (k := k) h.2 (by simpa using hp) (by simpa using hq)
theorem fac_bd {p q : Pnt} (h : 0 < val p.vl + val p.fl) (hp : PntOk p) (hq : PntOk q) : Bd 42 (Rat.divInt (val q.vl) (val p.vl + val p.fl)) := by
  have a1 := val_lt_of hq.lv
  have a2 := val_lt_of hp.lv
  have a3 := val_lt_of hp.lf
  have a4 : (10 : Nat) ^ 41 + 10 ^ 41 ≤ 10 ^ 42 := by decide
  have a5 := Int.natAbs_add_le (val p.vl) (val p.fl)
  exact bd_divInt (by omega) (by omega) (by omega)
theorem facs_bd : ∀ {ts : List Pnt}, PosL (pts ts) → (∀ t ∈ ts, PntOk t) → ∀ q ∈ facs (pts ts), Bd 42 q
  | [], _, _, q, h => by cases h
  | [_], _, _, q, h => by cases h
  | a :: b :: r, hp, hs, q, h => by
    have h1 : facs (pts (a :: b :: r)) = Rat.divInt (val b.vl) (val a.vl + val a.fl) :: facs (pts (b :: r)) := rfl
    rw [h1] at h
    rcases List.mem_cons.1 h with rfl | h
    · exact fac_bd hp.1 (hs a (by simp)) (hs b (by simp))
    · exact facs_bd (ts := b :: r) hp.2 (fun t ht => hs t (List.mem_cons_of_mem _ ht)) q h
theorem prodQ_bd {M : Nat} : ∀ (l : List Rat) {x : Rat} {K : Nat}, Bd K x → (∀ q ∈ l, Bd M q) → Bd (K + M * l.length) (prodQ x l)
  | [], x, K, h, _ => by rw [List.length_nil, Nat.mul_zero]; exact h
  | f :: r, x, K, h, hl => by
    have := prodQ_bd (M := M) r (x := x * f) (K := K + M) (bd_mul h (hl f (List.mem_cons_self ..))) (fun q hq => hl q (List.mem_cons_of_mem _ hq))
    rw [List.length_cons, Nat.mul_succ, show K + (M * r.length + M) = K + M + M * r.length by omega]
    exact this
theorem prodQ_snoc (l : List Rat) (x y : Rat) : prodQ x (l ++ [y]) = prodQ x l * y := prodQ_app l [y] x
theorem bd_one : Bd 1 (1 : Rat) := ⟨by decide, by decide⟩
/-! gain and capital -/
theorem gainZ_snoc : ∀ (l : List PT) (g : Int) (p : PT), gainZ g (l ++ [p]) = gainZ g l - p.2.2
  | [], _, _ => rfl
  | q :: r, g, p => gainZ_snoc r (g - q.2.2) p
theorem capQ_snoc (z d : Int) : ∀ (l : List PT) (c : Rat) (p : PT), capQ z d c (l ++ [p]) = capQ z d c l + Rat.divInt (p.2.2 * (z - p.1)) d
  | [], _, _ => rfl
  | _ :: r, _, p => capQ_snoc z d r _ p
theorem take_snoc {α : Type} {T : List α} {k : Nat} {y : α} (h : T[k]? = some y) : T.take (k + 1) = T.take k ++ [y] := by
  obtain ⟨hk, rfl⟩ := List.getElem?_eq_some_iff.1 h
  exact (List.take_append_getElem hk).symm
theorem pts_at {ts : List Pnt} {k : Nat} {t : Pnt} (h : ts[k]? = some t) : (pts ts)[k]? = some (ptZ t) := by unfold pts; rw [List.getElem?_map, h]; rfl
def gainK (ts : List Pnt) (g : Int) (k : Nat) : Int := gainZ g ((pts ts).take k)
def capK (ts : List Pnt) (z d : Int) (c : Rat) (k : Nat) : Rat := capQ z d c ((pts ts).take k)
theorem gainK_step {ts : List Pnt} {k : Nat} {t : Pnt} (h : ts[k]? = some t) (g : Int) : gainK ts g (k + 1) = gainK ts g k - val t.fl := by
  unfold gainK; rw [take_snoc (pts_at h), gainZ_snoc]; rfl
theorem capK_step {ts : List Pnt} {k : Nat} {t : Pnt} (h : ts[k]? = some t) (z d : Int) (c : Rat) : capK ts z d c (k + 1) = capK ts z d c k + Rat.divInt (val t.fl * (z - t.day)) d := by
  unfold capK; rw [take_snoc (pts_at h), capQ_snoc]; rfl
theorem part_bd {f z a d : Int} (h : f.natAbs < 10 ^ 41) (h1 : (z - a).natAbs < 10 ^ 6) (h2 : d.natAbs < 10 ^ 6) (h0 : d ≠ 0) : Bd 47 (Rat.divInt (f * (z - a)) d) := by
  refine bd_divInt ?_ (Nat.lt_of_lt_of_le h2 (by decide)) h0
  rw [Int.natAbs_mul]
  rw [show (10 : Nat) ^ 47 = 10 ^ 41 * 10 ^ 6 by decide]
  exact Nat.mul_lt_mul'' h h1
theorem gainK_bd {ts : List Pnt} (hs : ∀ t ∈ ts, PntOk t) {g : Int} (hg : g.natAbs < 10 ^ 42) : ∀ k, k ≤ ts.length → (gainK ts g k).natAbs < 10 ^ (42 + k)
  | 0, _ => by unfold gainK; rw [List.take_zero]; exact hg
  | k + 1, h => by
    obtain ⟨t, ht⟩ : ∃ t, ts[k]? = some t := ⟨_, List.getElem?_eq_getElem (by omega)⟩
    rw [gainK_step ht]
    have ih := gainK_bd hs hg k (by omega)
    have a1 := val_lt_of (hs t (List.mem_of_getElem? ht)).lf
    have a2 : (10 : Nat) ^ 41 ≤ 10 ^ (42 + k) := Nat.pow_le_pow_right (by decide) (by omega)
    have a3 : (10 : Nat) ^ (42 + (k + 1)) = 10 ^ (42 + k) * 10 := by rw [← Nat.pow_succ]; rfl
    generalize 10 ^ (42 + (k + 1)) = X at *
    generalize 10 ^ (42 + k) = Y at *
    generalize 10 ^ 41 = Z at *
    omega
theorem capK_bd {ts : List Pnt} (hs : ∀ t ∈ ts, PntOk t) {z d : Int} {c : Rat} (hc : Bd 42 c) (hz : -25567 ≤ z ∧ z ≤ 84005) (hd : d.natAbs < 10 ^ 6) (h0 : d ≠ 0) : ∀ k, k ≤ ts.length → Bd (42 + 48 * k) (capK ts z d c k)
  | 0, _ => by unfold capK; rw [List.take_zero]; exact hc
  | k + 1, h => by
    obtain ⟨t, ht⟩ : ∃ t, ts[k]? = some t := ⟨_, List.getElem?_eq_getElem (by omega)⟩
    rw [capK_step ht]
    have ih := capK_bd hs hc hz hd h0 k (by omega)
    have ho := hs t (List.mem_of_getElem? ht)
    have a1 := part_bd (f := val t.fl) (z := z) (a := t.day) (d := d) (val_lt_of ho.lf) (by have := ho.day; omega) hd h0
    exact bd_mono (bd_add ih a1) (by omega)
/-- first and last point; gain and capital -/
theorem last_at {α : Type} : ∀ {l : List α} {n : Nat} {z : α}, l.length = n + 1 → l[n]? = some z → (h : l ≠ []) → l.getLast h = z
  | l, n, z, h1, h2, h => by
    have := List.getLast?_eq_getElem? (l := l)
    rw [h1, Nat.add_sub_cancel, h2, List.getLast?_eq_some_getLast h] at this
    exact Option.some.inj this
theorem gainP_at {ts : List Pnt} {n : Nat} {a z : Pnt} (hn : ts.length = n + 1) (ha : ts[0]? = some a) (hz : ts[n]? = some z) : gainP (pts ts) = gainK ts (val z.vl - val a.vl) n ∧ capP (pts ts) = capK ts z.day (z.day - a.day) (val a.vl : Rat) n := by
  have hl := last_at (l := pts ts) (by rw [pts_len, hn]) (pts_at hz)
  cases hts : pts ts with
  | nil => have := pts_len ts; rw [hts, hn] at this; cases this
  | cons b r =>
    have hb : b = ptZ a := by
      have := pts_at ha
      rw [hts] at this
      simpa using this
    have hdl : (b :: r).dropLast = (pts ts).take n := by
      rw [← hts, List.dropLast_eq_take, pts_len, hn]; rfl
    have hl2 : (b :: r).getLast (by simp) = ptZ z := by
      have := hl (by rw [hts]; simp)
      rw [← this]; congr 1; exact hts.symm
    constructor
    · show gainZ (((b :: r).getLast (by simp)).2.1 - b.2.1) (b :: r).dropLast = _
      rw [hl2, hdl, hb]; rfl
    · show capQ (((b :: r).getLast (by simp)).1) (((b :: r).getLast (by simp)).1 - b.1) (b.2.1 : Rat) (b :: r).dropLast = _
      rw [hl2, hdl, hb]; rfl
theorem upD_le : ∀ {ts : List Pnt} {o : Option Int} {k : Nat} {t : Pnt}, UpD o ts → ts[k]? = some t → ∀ d, o = some d → d < t.day
  | [], _, k, t, _, h, _, _ => by simp at h
  | p :: r, o, 0, t, h, ht, d, hd => by
    have : p = t := by simpa using ht
    subst this
    have := h.1
    subst hd
    unfold ordB at this
    simpa using this
  | p :: r, o, k + 1, t, h, ht, d, hd => by
    have h1 := upD_le (o := o) (k := 0) h (show (p :: r)[0]? = some p from rfl) d hd
    have h2 := upD_le (ts := r) (k := k) h.2 (by simpa using ht) p.day rfl
    omega
theorem upD_days {ts : List Pnt} {o : Option Int} {i k : Nat} {a z : Pnt} (h : UpD o ts) (ha : ts[i]? = some a) (hz : ts[k]? = some z) (hik : i < k) : a.day < z.day := by
  induction ts generalizing o i k with
  | nil => simp at ha
  | cons p r ih =>
    cases k with
    | zero => omega
    | succ k =>
      cases i with
      | zero =>
        have : p = a := by simpa using ha
        subst this
        exact upD_le (ts := r) (k := k) h.2 (by simpa using hz) p.day rfl
      | succ i => exact ih h.2 (by simpa using ha) (by simpa using hz) (by omega)
end Go.Proofs.YtmjglcgdcclinaaGreatDoor
