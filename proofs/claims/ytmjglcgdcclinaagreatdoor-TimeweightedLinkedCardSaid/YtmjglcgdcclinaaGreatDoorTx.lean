/- Plain: the parts of a series are series; what Cut makes of them. -/
import Derived.Test.YtmjglcgdcclinaaGreatDoorTw
import Derived.Test.YtmjglcgdcclinaaGreatDoorTo
namespace Go.Proofs.YtmjglcgdcclinaaGreatDoor
open Go.RowKit Num
theorem pntL_split {o : Option Int} {p : Pnt} {r : List Pnt} (h : pntL o (p :: r) = 0) : ¬ dayB p.day = false ∧ p.vl = canon (val p.vl) ∧ p.fl = canon (val p.fl) ∧ ¬ longB p.vl = true ∧ ¬ longB p.fl = true ∧ ¬ ordB o p.day = true ∧ ¬ val p.vl < 0 ∧ ¬ (r ≠ [] ∧ val p.vl + val p.fl ≤ 0) ∧ pntL (some p.day) r = 0 := by
  unfold pntL at h
  by_cases g1 : dayB p.day = false
  · rw [if_pos g1] at h; cases h
  rw [if_neg g1] at h
  by_cases g2 : p.vl = canon (val p.vl)
  rotate_left
  · rw [if_pos g2] at h; cases h
  rw [if_neg (fun h => h g2)] at h
  by_cases g3 : p.fl = canon (val p.fl)
  rotate_left
  · rw [if_pos g3] at h; cases h
  rw [if_neg (fun h => h g3)] at h
  by_cases g7 : longB p.vl = true
  · rw [if_pos g7] at h; cases h
  rw [if_neg g7] at h
  by_cases g8 : longB p.fl = true
  · rw [if_pos g8] at h; cases h
  rw [if_neg g8] at h
  by_cases g4 : ordB o p.day = true
  · rw [if_pos g4] at h; cases h
  rw [if_neg g4] at h
  by_cases g5 : val p.vl < 0
  · rw [if_pos g5] at h; cases h
  rw [if_neg g5] at h
  by_cases g6 : r ≠ [] ∧ val p.vl + val p.fl ≤ 0
  · rw [if_pos g6] at h; cases h
  rw [if_neg g6] at h
  exact ⟨g1, g2, g3, g7, g8, g4, g5, g6, h⟩
theorem pntL_join {o : Option Int} {p : Pnt} {r : List Pnt} (g1 : ¬ dayB p.day = false) (g2 : p.vl = canon (val p.vl)) (g3 : p.fl = canon (val p.fl)) (g7 : ¬ longB p.vl = true) (g8 : ¬ longB p.fl = true) (g4 : ¬ ordB o p.day = true) (g5 : ¬ val p.vl < 0) (g6 : ¬ (r ≠ [] ∧ val p.vl + val p.fl ≤ 0)) (h : pntL (some p.day) r = 0) : pntL o (p :: r) = 0 := by
  unfold pntL
  rw [if_neg g1, if_neg (fun h => h g2), if_neg (fun h => h g3), if_neg g7, if_neg g8, if_neg g4, if_neg g5, if_neg g6]
  exact h
theorem pntL_take : ∀ (ts : List Pnt) (o : Option Int) (k : Nat), pntL o ts = 0 → pntL o (ts.take k) = 0
  | [], o, k, _ => by rw [List.take_nil]; rfl
  | p :: r, o, 0, _ => rfl
  | p :: r, o, k + 1, h => by
    obtain ⟨g1, g2, g3, g7, g8, g4, g5, g6, h⟩ := pntL_split h
    exact pntL_join g1 g2 g3 g7 g8 g4 g5 (fun hx => g6 ⟨fun e => hx.1 (by rw [e, List.take_nil]), hx.2⟩) (pntL_take r _ k h)
theorem pntL_weak : ∀ (ts : List Pnt) (o : Option Int), pntL o ts = 0 → pntL none ts = 0
  | [], _, _ => rfl
  | p :: r, o, h => by
    obtain ⟨g1, g2, g3, g7, g8, g4, g5, g6, h⟩ := pntL_split h
    exact pntL_join g1 g2 g3 g7 g8 (by show ¬ false = true; decide) g5 g6 h
theorem pntL_drop : ∀ (ts : List Pnt) (o : Option Int) (k : Nat), pntL o ts = 0 → pntL none (ts.drop k) = 0
  | ts, o, 0, h => by rw [List.drop_zero]; exact pntL_weak ts o h
  | [], o, k + 1, _ => rfl
  | p :: r, o, k + 1, h => by
    obtain ⟨-, -, -, -, -, -, -, -, h⟩ := pntL_split h
    exact pntL_drop r _ k h
theorem pntE_list {ts : List Pnt} (h : pntE ts = 0) : pntL none ts = 0 := by
  obtain ⟨h1, h2, -⟩ := pntE_ok h
  unfold pntE at h
  rwa [if_neg (by omega), if_neg (by omega)] at h
theorem pntE_mk {ts : List Pnt} (h1 : 1 ≤ ts.length) (h2 : ts.length ≤ 400) (h : pntL none ts = 0) : pntE ts = 0 := by
  unfold pntE
  rw [if_neg (by omega), if_neg (by omega)]; exact h
theorem pntE_take {ts : List Pnt} {k : Nat} (h : pntE ts = 0) : pntE (ts.take (k + 1)) = 0 := by
  obtain ⟨h1, h2, -⟩ := pntE_ok h
  exact pntE_mk (by rw [List.length_take]; omega) (by rw [List.length_take]; omega) (pntL_take _ _ _ (pntE_list h))
theorem pntE_drop {ts : List Pnt} {k : Nat} (h : pntE ts = 0) (hk : k < ts.length) : pntE (ts.drop k) = 0 := by
  obtain ⟨h1, h2, -⟩ := pntE_ok h
  exact pntE_mk (by rw [List.length_drop]; omega) (by rw [List.length_drop]; omega) (pntL_drop _ _ _ (pntE_list h))
theorem upD_first {ts : List Pnt} {o : Option Int} {a : Pnt} (hu : UpD o ts) (ha : ts[0]? = some a) : ∀ t ∈ ts, a.day ≤ t.day := by
  cases ts with
  | nil => simp at ha
  | cons p r =>
    have : p = a := by simpa using ha
    subst this
    intro t ht
    rcases List.mem_cons.1 ht with rfl | ht
    · exact Int.le_refl _
    · obtain ⟨i, hi⟩ := List.mem_iff_getElem?.1 ht
      have := upD_le hu.2 hi p.day rfl
      omega
theorem upD_last : ∀ (ts : List Pnt) (o : Option Int) (m : Nat) (y : Pnt), UpD o ts → ts.length = m + 1 → ts[m]? = some y → ∀ t ∈ ts, t.day ≤ y.day
  | [], _, _, _, _, h, _, _, _ => by simp at h
  | p :: r, o, 0, y, hu, hn, hy, t, ht => by
    have hr : r = [] := List.length_eq_zero_iff.1 (by simpa using hn)
    subst hr
    have h1 : p = y := by simpa using hy
    have h2 : t = p := by simpa using ht
    rw [h2, h1]; exact Int.le_refl _
  | p :: r, o, m + 1, y, hu, hn, hy, t, ht => by
    have hy2 : r[m]? = some y := by simpa using hy
    rcases List.mem_cons.1 ht with rfl | ht
    · have := upD_le hu.2 hy2 t.day rfl
      omega
    · exact upD_last r (some p.day) m y hu.2 (by simpa using hn) hy2 t ht
theorem link_vals {ts : List Pnt} {m k : Nat} {a z y : Pnt} (h0 : pntE ts = 0) (hn : ts.length = m + 1) (hk : k ≤ m) (ha : ts[0]? = some a) (hz : ts[k]? = some z) (hy : ts[m]? = some y) :
    cutE ts a.day z.day = 0 ∧ cutL ts a.day z.day = ts.take (k + 1) ∧ cutE ts z.day y.day = 0 ∧ cutL ts z.day y.day = ts.drop k := by
  obtain ⟨-, -, -, hu, hok⟩ := pntE_ok h0
  have f1 := filter_take ts none k z a.day hu hz (upD_first hu ha)
  have f2 := filter_drop ts none k z y.day hu hz (upD_last ts none m y hu hn hy)
  have hd : ∀ t ∈ ts, ¬ dayB t.day = false := fun t ht => by
    have h1 := (hok t ht).day
    unfold dayB
    rw [decide_eq_true h1.1, decide_eq_true h1.2]; decide
  have hma := List.mem_of_getElem? ha
  have hmz := List.mem_of_getElem? hz
  have hmy := List.mem_of_getElem? hy
  have l1 := upD_first hu ha z hmz
  have l2 := upD_last ts none m y hu hn hy z hmz
  have e1 : cutE ts a.day z.day = 0 := by
    unfold cutE
    rw [if_neg (fun h => h h0), if_neg (hd a hma), if_neg (hd z hmz), if_neg (by omega), if_neg ?_]
    rw [f1]
    intro h
    have := congrArg List.length h
    rw [List.length_take, List.length_nil] at this; omega
  have e2 : cutE ts z.day y.day = 0 := by
    unfold cutE
    rw [if_neg (fun h => h h0), if_neg (hd z hmz), if_neg (hd y hmy), if_neg (by omega), if_neg ?_]
    rw [f2]
    intro h
    have := congrArg List.length h
    rw [List.length_drop, List.length_nil] at this; omega
  exact ⟨e1, (cutL_yes e1).trans f1, e2, (cutL_yes e2).trans f2⟩
theorem link_prod {ts : List Pnt} {k : Nat} (hk : k < ts.length) : prodQ 1 (facs (pts (ts.take (k + 1)))) * prodQ 1 (facs (pts (ts.drop k))) = prodQ 1 (facs (pts ts)) := by
  rw [pts_take, pts_drop, facs_cut (pts ts) k (by rw [pts_len]; exact hk), prodQ_app]
  generalize prodQ 1 (facs ((pts ts).take (k + 1))) = x
  have := prodQ_mul (facs ((pts ts).drop k)) x 1
  rw [Rat.mul_one] at this
  exact this.symm
theorem pntAt_take {w : World} {A : Option Addr} {ts : List Pnt} (h : PntAt w A ts) (k : Nat) : PntAt w A (ts.take k) := fun i t ht => by
  rw [List.getElem?_take] at ht
  split at ht
  · exact h i t ht
  · cases ht
theorem pntAt_drop {w : World} {b o : Nat} {ts : List Pnt} (h : PntAt w (some ⟨b, o, none⟩) ts) (k : Nat) : PntAt w (some ⟨b, o + k * 3, none⟩) (ts.drop k) := fun i t ht => by
  rw [List.getElem?_drop] at ht
  obtain ⟨b', o', h0, h1, h2, h3, h4⟩ := h (k + i) t ht
  cases h0
  refine ⟨b, o + k * 3, rfl, h1, ?_, ?_, ?_⟩
  · rw [show o + k * 3 + i * 3 = o + (k + i) * 3 by omega]; exact h2
  · rw [show o + k * 3 + i * 3 = o + (k + i) * 3 by omega]; exact h3
  · rw [show o + k * 3 + i * 3 = o + (k + i) * 3 by omega]; exact h4
end Go.Proofs.YtmjglcgdcclinaaGreatDoor
