/- Plain: series of points, growth factors, gain and capital. No program in sight. -/
import Derived.Test.YtmjglcgdcclinaaGreatDoorBd
namespace Go.Proofs.YtmjglcgdcclinaaGreatDoor
open Num
/-- day, value, flow -/
abbrev PT := Int × Int × Int
/-- the growth factors -/
def facs : List PT → List Rat
  | p :: q :: r => Rat.divInt q.2.1 (p.2.1 + p.2.2) :: facs (q :: r)
  | _ => []
def prodQ : Rat → List Rat → Rat
  | x, [] => x
  | x, f :: r => prodQ (x * f) r
def gainZ : Int → List PT → Int
  | g, [] => g
  | g, p :: r => gainZ (g - p.2.2) r
def capQ (z days : Int) : Rat → List PT → Rat
  | c, [] => c
  | c, p :: r => capQ z days (c + Rat.divInt (p.2.2 * (z - p.1)) days) r
/-- gain and capital of a series -/
def gainP (l : List PT) : Int := match l with
  | [] => 0
  | a :: r => gainZ ((((a :: r).getLast (by simp)).2.1) - a.2.1) (a :: r).dropLast
def capP (l : List PT) : Rat := match l with
  | [] => 0
  | a :: r => capQ (((a :: r).getLast (by simp)).1) (((a :: r).getLast (by simp)).1 - a.1) (a.2.1 : Rat) (a :: r).dropLast
/-- behind each point but the last there is something -/
def PosL : List PT → Prop
  | p :: q :: r => 0 < p.2.1 + p.2.2 ∧ PosL (q :: r)
  | _ => True
theorem prodQ_mul : ∀ (l : List Rat) (x y : Rat), prodQ (x * y) l = x * prodQ y l
  | [], x, y => rfl
  | f :: r, x, y => by
    show prodQ (x * y * f) r = x * prodQ (y * f) r
    rw [← prodQ_mul r x (y * f)]
    congr 1
    grind
theorem prodQ_app : ∀ (l m : List Rat) (x : Rat), prodQ x (l ++ m) = prodQ (prodQ x l) m
  | [], _, _ => rfl
  | f :: r, m, x => prodQ_app r m (x * f)
theorem intq_ne {z : Int} (h : z ≠ 0) : (z : Rat) ≠ 0 := fun e => h (Rat.intCast_inj.1 (e.trans rfl))
theorem divInt_div (a b : Int) : Rat.divInt a b = (a : Rat) / b := Rat.divInt_eq_div a b
/-- without flows behind the first point -/
def still : List PT → List PT := List.map (fun p => (p.1, p.2.1, 0))
theorem facs_still : ∀ (l : List PT) (a : PT) (s : Int), 0 < s → PosL (a :: l) → (∀ p ∈ l, p.2.2 = 0) → a.2.1 + a.2.2 = s → prodQ 1 (facs (a :: l)) = if h : l = [] then 1 else Rat.divInt ((l.getLast h).2.1) s
  | [], a, s, _, _, _, _ => rfl
  | [b], a, s, hs, _, _, e => by
    show prodQ 1 [Rat.divInt b.2.1 (a.2.1 + a.2.2)] = _
    rw [e, dif_neg (by simp)]
    show 1 * _ = _
    rw [Rat.one_mul]; rfl
  | b :: c :: r, a, s, hs, hp, hf, e => by
    have hb := hf b (List.mem_cons_self ..)
    have h2 : 0 < b.2.1 + b.2.2 := hp.2.1
    have ih := facs_still (c :: r) b (b.2.1 + b.2.2) h2 hp.2 (fun p h => hf p (List.mem_cons_of_mem _ h)) rfl
    rw [dif_neg (by simp)] at ih ⊢
    show prodQ (1 * Rat.divInt b.2.1 (a.2.1 + a.2.2)) (facs (b :: c :: r)) = _
    have e1 : (1 : Rat) * Rat.divInt b.2.1 (a.2.1 + a.2.2) = Rat.divInt b.2.1 (a.2.1 + a.2.2) * 1 := by grind
    rw [e1, prodQ_mul, ih, e]
    rw [hb, Int.add_zero] at h2 ⊢
    have : (b :: c :: r).getLast (by simp) = (c :: r).getLast (by simp) := List.getLast_cons (by simp)
    rw [this]
    generalize ((c :: r).getLast _).2.1 = z
    rw [divInt_div, divInt_div, divInt_div]
    have n1 := intq_ne (show s ≠ 0 by omega)
    have n2 := intq_ne (show b.2.1 ≠ 0 by omega)
    grind
theorem gain_still : ∀ (l : List PT) (g : Int), (∀ p ∈ l, p.2.2 = 0) → gainZ g l = g
  | [], g, _ => rfl
  | p :: r, g, h => by
    show gainZ (g - p.2.2) r = g
    rw [h p (List.mem_cons_self ..), Int.sub_zero]
    exact gain_still r g (fun q hq => h q (List.mem_cons_of_mem _ hq))
theorem cap_still (z d : Int) : ∀ (l : List PT) (c : Rat), (∀ p ∈ l, p.2.2 = 0) → capQ z d c l = c
  | [], c, _ => rfl
  | p :: r, c, h => by
    show capQ z d (c + Rat.divInt (p.2.2 * (z - p.1)) d) r = c
    rw [h p (List.mem_cons_self ..), Int.zero_mul, Rat.zero_divInt, Rat.add_zero]
    exact cap_still z d r c (fun q hq => h q (List.mem_cons_of_mem _ hq))
theorem last_cons (a b : PT) (r : List PT) : (a :: b :: r).getLast (by simp) = (b :: r).getLast (by simp) := List.getLast_cons (by simp)
/-- a flow on the first day only: both returns are equal -/
theorem first_only (a b : PT) (r : List PT) (hp : PosL (a :: b :: r)) (hf : ∀ p ∈ (b :: r).dropLast, p.2.2 = 0) (hd : a.1 < ((b :: r).getLast (by simp)).1) (hf2 : ∀ p ∈ b :: r, p.2.2 = 0) :
    capP (a :: b :: r) = ((a.2.1 + a.2.2 : Int) : Rat) ∧ (gainP (a :: b :: r) : Rat) / capP (a :: b :: r) = prodQ 1 (facs (a :: b :: r)) - 1 := by
  have h0 : 0 < a.2.1 + a.2.2 := hp.1
  have e1 : gainP (a :: b :: r) = ((b :: r).getLast (by simp)).2.1 - a.2.1 - a.2.2 := by
    show gainZ (((a :: b :: r).getLast (by simp)).2.1 - a.2.1) (a :: b :: r).dropLast = _
    rw [last_cons]
    show gainZ (_ - a.2.2) (b :: r).dropLast = _
    exact gain_still _ _ hf
  have e2 : capP (a :: b :: r) = ((a.2.1 + a.2.2 : Int) : Rat) := by
    show capQ (((a :: b :: r).getLast (by simp)).1) (((a :: b :: r).getLast (by simp)).1 - a.1) (a.2.1 : Rat) (a :: b :: r).dropLast = _
    rw [last_cons]
    show capQ _ _ ((a.2.1 : Rat) + Rat.divInt (a.2.2 * (((b :: r).getLast (by simp)).1 - a.1)) (((b :: r).getLast (by simp)).1 - a.1)) (b :: r).dropLast = _
    rw [cap_still _ _ _ _ hf]
    generalize ((b :: r).getLast _).1 = z at hd ⊢
    rw [divInt_div, Rat.intCast_mul, Rat.intCast_add]
    have := intq_ne (show z - a.1 ≠ 0 by omega)
    grind
  refine ⟨e2, ?_⟩
  rw [e2, e1, facs_still (b :: r) a _ h0 hp hf2 rfl, dif_neg (by simp)]
  generalize ((b :: r).getLast _).2.1 = z
  rw [divInt_div, Rat.intCast_sub, Rat.intCast_sub, Rat.intCast_add]
  have := intq_ne (show a.2.1 + a.2.2 ≠ 0 by omega)
  rw [Rat.intCast_add] at this
  grind
/-- all numbers times k -/
def timesP (k : Int) : List PT → List PT := List.map (fun p => (p.1, p.2.1 * k, p.2.2 * k))
theorem facs_times (k : Int) (hk : k ≠ 0) : ∀ l : List PT, facs (timesP k l) = facs l
  | [] => rfl
  | [_] => rfl
  | p :: q :: r => by
    show Rat.divInt (q.2.1 * k) (p.2.1 * k + p.2.2 * k) :: facs (timesP k (q :: r)) = _
    rw [facs_times k hk (q :: r), ← Int.add_mul, Rat.divInt_mul_right hk]
    rfl
theorem gainZ_times (k : Int) : ∀ (l : List PT) (g : Int), gainZ (g * k) (timesP k l) = gainZ g l * k
  | [], g => rfl
  | p :: r, g => by
    show gainZ (g * k - p.2.2 * k) (timesP k r) = gainZ (g - p.2.2) r * k
    rw [← gainZ_times k r, Int.sub_mul]
theorem capQ_times (k z d : Int) : ∀ (l : List PT) (c : Rat), capQ z d (c * k) (timesP k l) = capQ z d c l * k
  | [], c => rfl
  | p :: r, c => by
    show capQ z d (c * k + Rat.divInt (p.2.2 * k * (z - p.1)) d) (timesP k r) = capQ z d (c + Rat.divInt (p.2.2 * (z - p.1)) d) r * k
    rw [← capQ_times k z d r]
    congr 1
    rw [divInt_div, divInt_div, Rat.intCast_mul, Rat.intCast_mul, Rat.intCast_mul]
    grind
theorem times_dropLast (k : Int) (l : List PT) : (timesP k l).dropLast = timesP k l.dropLast := by
  unfold timesP; rw [List.map_dropLast]
theorem times_last (k : Int) (l : List PT) (h : l ≠ []) (h' : timesP k l ≠ []) : (timesP k l).getLast h' = ((l.getLast h).1, (l.getLast h).2.1 * k, (l.getLast h).2.2 * k) := by
  have := List.getLast_map (f := fun p : PT => (p.1, p.2.1 * k, p.2.2 * k)) (l := l) h'
  exact this
theorem gainP_times (k : Int) (l : List PT) : gainP (timesP k l) = gainP l * k := by
  cases l with
  | nil => show (0 : Int) = 0 * k; rw [Int.zero_mul]
  | cons a r =>
    show gainZ (((timesP k (a :: r)).getLast (by simp [timesP])).2.1 - a.2.1 * k) (timesP k (a :: r)).dropLast = gainZ _ (a :: r).dropLast * k
    rw [times_last k (a :: r) (by simp), times_dropLast, ← gainZ_times, Int.sub_mul]
theorem capP_times (k : Int) (l : List PT) : capP (timesP k l) = capP l * k := by
  cases l with
  | nil => show (0 : Rat) = 0 * k; rw [Rat.zero_mul]
  | cons a r =>
    show capQ ((timesP k (a :: r)).getLast (by simp [timesP])).1 (((timesP k (a :: r)).getLast (by simp [timesP])).1 - a.1) ((a.2.1 * k : Int) : Rat) (timesP k (a :: r)).dropLast = capQ _ _ _ (a :: r).dropLast * k
    rw [times_last k (a :: r) (by simp), times_dropLast, Rat.intCast_mul, ← capQ_times]

/-- the last flow does not matter -/
theorem facs_last : ∀ (l : List PT) (d v f f' : Int), facs (l ++ [(d, v, f)]) = facs (l ++ [(d, v, f')])
  | [], _, _, _, _ => rfl
  | [_], _, _, _, _ => rfl
  | p :: q :: r, d, v, f, f' => by
    show Rat.divInt q.2.1 (p.2.1 + p.2.2) :: facs (q :: r ++ [(d, v, f)]) = Rat.divInt q.2.1 (p.2.1 + p.2.2) :: facs (q :: r ++ [(d, v, f')])
    rw [facs_last (q :: r) d v f f']
theorem gain_last (a : PT) (l : List PT) (d v f f' : Int) : gainP (a :: l ++ [(d, v, f)]) = gainP (a :: l ++ [(d, v, f')]) ∧ capP (a :: l ++ [(d, v, f)]) = capP (a :: l ++ [(d, v, f')]) := by
  have e1 : ∀ f, (a :: l ++ [(d, v, f)]).getLast (by simp) = (d, v, f) := fun f => List.getLast_concat
  have e2 : ∀ f, (a :: l ++ [(d, v, f)]).dropLast = a :: l := fun f => List.dropLast_concat
  constructor
  · show gainZ (((a :: l ++ [(d, v, f)]).getLast (by simp)).2.1 - a.2.1) (a :: l ++ [(d, v, f)]).dropLast = gainZ (((a :: l ++ [(d, v, f')]).getLast (by simp)).2.1 - a.2.1) (a :: l ++ [(d, v, f')]).dropLast
    rw [e1, e1, e2, e2]
  · show capQ ((a :: l ++ [(d, v, f)]).getLast (by simp)).1 (((a :: l ++ [(d, v, f)]).getLast (by simp)).1 - a.1) (a.2.1 : Rat) (a :: l ++ [(d, v, f)]).dropLast = capQ ((a :: l ++ [(d, v, f')]).getLast (by simp)).1 (((a :: l ++ [(d, v, f')]).getLast (by simp)).1 - a.1) (a.2.1 : Rat) (a :: l ++ [(d, v, f')]).dropLast
    rw [e1, e1, e2, e2]
end Go.Proofs.YtmjglcgdcclinaaGreatDoor
