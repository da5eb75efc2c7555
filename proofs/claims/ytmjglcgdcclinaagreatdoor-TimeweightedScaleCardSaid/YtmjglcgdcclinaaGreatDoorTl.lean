/- What the laws of chapter 46 need of points that are turned: the last flow, no flows, all times k. -/
import Derived.Test.YtmjglcgdcclinaaGreatDoorTj
import Derived.Test.YtmjglcgdcclinaaGreatDoorTq
namespace Go.Proofs.YtmjglcgdcclinaaGreatDoor
open Num
theorem pntL_last {z z' : Pnt} (h1 : z'.day = z.day) (h2 : z'.vl = z.vl) (h3 : z'.fl = canon (val z'.fl)) (h4 : ¬ longB z'.fl = true) : ∀ (r : List Pnt) (o : Option Int), pntL o (r ++ [z]) = 0 → pntL o (r ++ [z']) = 0
  | [], o, h => by
    have h : pntL o [z] = 0 := h
    show pntL o [z'] = 0
    unfold pntL at h ⊢
    rw [h1, h2]
    by_cases g1 : dayB z.day = false
    · rw [if_pos g1] at h; cases h
    rw [if_neg g1] at h ⊢
    by_cases g2 : z.vl = canon (val z.vl)
    rotate_left
    · rw [if_pos g2] at h; cases h
    rw [if_neg (fun h => h g2)] at h ⊢
    rw [if_neg (fun h => h h3)]
    by_cases g3 : z.fl = canon (val z.fl)
    rotate_left
    · rw [if_pos g3] at h; cases h
    rw [if_neg (fun h => h g3)] at h
    by_cases g7 : longB z.vl = true
    · rw [if_pos g7] at h; cases h
    rw [if_neg g7] at h ⊢
    rw [if_neg h4]
    by_cases g8 : longB z.fl = true
    · rw [if_pos g8] at h; cases h
    rw [if_neg g8] at h
    by_cases g4 : ordB o z.day = true
    · rw [if_pos g4] at h; cases h
    rw [if_neg g4] at h ⊢
    by_cases g5 : val z.vl < 0
    · rw [if_pos g5] at h; cases h
    rw [if_neg g5]
    rw [if_neg (fun h => h.1 rfl)]
    rfl
  | p :: r, o, h => by
    have h : pntL o (p :: (r ++ [z])) = 0 := h
    show pntL o (p :: (r ++ [z'])) = 0
    unfold pntL at h ⊢
    simp only [ne_eq, List.append_eq_nil_iff, List.cons_ne_self, and_false, not_false_eq_true, true_and] at h ⊢
    split at h
    · cases h
    rename_i g1
    rw [if_neg g1]
    split at h
    · cases h
    rename_i g2
    rw [if_neg g2]
    split at h
    · cases h
    rename_i g3
    rw [if_neg g3]
    split at h
    · cases h
    rename_i g4
    rw [if_neg g4]
    split at h
    · cases h
    rename_i g5
    rw [if_neg g5]
    split at h
    · cases h
    rename_i g6
    rw [if_neg g6]
    split at h
    · cases h
    rename_i g7
    rw [if_neg g7]
    split at h
    · cases h
    rename_i g8
    rw [if_neg g8]
    exact pntL_last h1 h2 h3 h4 r (some p.day) h
theorem last_split {ts : List Pnt} {m : Nat} {z : Pnt} (hn : ts.length = m + 1) (hz : ts[m]? = some z) : ts = ts.take m ++ [z] := by
  rw [← take_snoc hz, List.take_of_length_le (by omega)]
theorem set_last {ts : List Pnt} {m : Nat} {z z' : Pnt} (hn : ts.length = m + 1) (hz : ts[m]? = some z) : ts.set m z' = ts.take m ++ [z'] := by
  conv => lhs; rw [last_split hn hz]
  rw [List.set_append_right _ _ (by simp; omega), List.length_take, Nat.min_eq_left (by omega), Nat.sub_self]
  rfl
theorem pts_app (a b : List Pnt) : pts (a ++ b) = pts a ++ pts b := List.map_append ..
/-- a canonical string that is not long -/
theorem short_not_long {l : List UInt8} (h : l.length ≤ 40) : ¬ longB l = true := fun h2 => by
  have h3 : 40 < digN l := of_decide_eq_true h2
  have := (digN_le l).2
  omega
theorem last_same {ts : List Pnt} {m : Nat} {z : Pnt} {f : List UInt8} (hm : 1 ≤ m) (hn : ts.length = m + 1) (hz : ts[m]? = some z) (h0 : pntE ts = 0) (hc : f = canon (val f)) (hl : f.length ≤ 40) :
    pntE (ts.set m ⟨z.day, z.vl, f⟩) = 0 ∧ facs (pts (ts.set m ⟨z.day, z.vl, f⟩)) = facs (pts ts) ∧ gainP (pts (ts.set m ⟨z.day, z.vl, f⟩)) = gainP (pts ts) ∧ capP (pts (ts.set m ⟨z.day, z.vl, f⟩)) = capP (pts ts) := by
  have hs := set_last (z' := ⟨z.day, z.vl, f⟩) hn hz
  have ht := last_split hn hz
  have hE : pntE (ts.set m ⟨z.day, z.vl, f⟩) = 0 := by
    have h1 := pntE_ok h0
    unfold pntE at h0 ⊢
    rw [List.length_set]
    rw [if_neg (by omega), if_neg (by omega)] at h0 ⊢
    rw [hs]
    rw [ht] at h0
    exact pntL_last (z := z) (z' := ⟨z.day, z.vl, f⟩) rfl rfl hc (short_not_long hl) (ts.take m) none h0
  have e1 : pts (ts.set m ⟨z.day, z.vl, f⟩) = pts (ts.take m) ++ [(z.day, val z.vl, val f)] := by rw [hs, pts_app]; rfl
  have e2 : pts ts = pts (ts.take m) ++ [(z.day, val z.vl, val z.fl)] := by
    conv => lhs; rw [ht]
    rw [pts_app]; rfl
  refine ⟨hE, ?_⟩
  rw [e1, e2]
  refine ⟨facs_last _ _ _ _ _, ?_⟩
  cases hp : pts (ts.take m) with
  | nil =>
    have := pts_len (ts.take m)
    rw [hp, List.length_take] at this
    simp at this
    omega
  | cons a r => exact gain_last a r _ _ _ _
theorem last_vals {ts : List Pnt} {m : Nat} {z : Pnt} {f : List UInt8} (hm : 1 ≤ m) (hn : ts.length = m + 1) (hz : ts[m]? = some z) (h0 : pntE ts = 0) (hc : f = canon (val f)) (hl : f.length ≤ 40) :
    pntE (ts.set m ⟨z.day, z.vl, f⟩) = 0 ∧ retV (ts.set m ⟨z.day, z.vl, f⟩) = retV ts ∧ dtzV (ts.set m ⟨z.day, z.vl, f⟩) = dtzV ts := by
  obtain ⟨h1, h2, h3, h4⟩ := last_same hm hn hz h0 hc hl
  refine ⟨h1, ?_, ?_⟩
  · unfold retV; rw [h1, h2, h0]
  · unfold dtzV; rw [h1, h3, h4, h0, List.length_set]
/-- what a valid series returns -/
theorem ret_form {ts : List Pnt} (h : pntE ts = 0) : retV ts = .tuple #[(Value.agg #[Value.string ⟨List.toArray (fN (prodQ 1 (facs (pts ts)) - 1))⟩, Value.string ⟨List.toArray (fD (prodQ 1 (facs (pts ts)) - 1))⟩]), .int .i64 0] := if_neg (fun g => g h)
theorem dtz_form (ts : List Pnt) : ∃ (a b : List UInt8) (c : Int), dtzV ts = .tuple #[(Value.agg #[Value.string ⟨List.toArray a⟩, Value.string ⟨List.toArray b⟩]), .int .i64 c] := by
  unfold dtzV
  split
  · exact ⟨[], [], _, rfl⟩
  · split
    · exact ⟨[], [], _, rfl⟩
    · split
      · exact ⟨[], [], _, rfl⟩
      · exact ⟨_, _, _, rfl⟩
/-- no flow -/
def noFlow (t : Pnt) : Pnt := ⟨t.day, t.vl, []⟩
theorem pts_noFlow (ts : List Pnt) : ∀ p ∈ pts (ts.map noFlow), p.2.2 = 0 := fun p hp => by
  unfold pts at hp
  obtain ⟨x, hx, rfl⟩ := List.mem_map.1 hp
  obtain ⟨y, -, rfl⟩ := List.mem_map.1 hx
  exact val_nil
/-- a flow on the first day only: both returns are the same -/
theorem first_vals {a : Pnt} {ts : List Pnt} (h2 : ts ≠ []) (h0 : pntE (a :: ts.map noFlow) = 0) : dtzV (a :: ts.map noFlow) = retV (a :: ts.map noFlow) := by
  obtain ⟨-, -, hp, hu, -⟩ := pntE_ok h0
  cases hts : ts with
  | nil => exact absurd hts h2
  | cons b r =>
    rw [hts] at h0 hp hu
    have e : pts (a :: (b :: r).map noFlow) = ptZ a :: ptZ (noFlow b) :: pts (r.map noFlow) := rfl
    have hf : ∀ p ∈ ptZ (noFlow b) :: pts (r.map noFlow), p.2.2 = 0 := pts_noFlow (b :: r)
    have hlast0 : ((ptZ (noFlow b) :: pts (r.map noFlow)).getLast (by simp)) ∈ ptZ (noFlow b) :: pts (r.map noFlow) := List.getLast_mem (by simp)
    have hlast : ((ptZ (noFlow b) :: pts (r.map noFlow)).getLast (by simp)) ∈ pts ((b :: r).map noFlow) := hlast0
    obtain ⟨x, hx, hx2⟩ := List.mem_map.1 hlast
    obtain ⟨i, hi⟩ := List.mem_iff_getElem?.1 hx
    have hday := upD_days (ts := a :: (b :: r).map noFlow) (i := 0) (k := i + 1) hu rfl (show (a :: (b :: r).map noFlow)[i + 1]? = some x from hi) (by omega)
    rw [e] at hp
    obtain ⟨c1, c2⟩ := first_only (ptZ a) (ptZ (noFlow b)) (pts (r.map noFlow)) hp (fun p hp => hf p ((List.dropLast_sublist _).subset hp)) (by rw [← hx2]; exact hday) hf
    rw [ret_form h0]
    unfold dtzV
    rw [h0, if_neg (fun h => h rfl), if_neg (by simp), if_neg ?_]
    · rw [e, c2]
    · rw [e, c1]
      exact intq_ne (by have := hp.1; omega)
/-- without flows: the last value divided by the first one, less 1 -/
theorem still_vals {ts : List Pnt} {m : Nat} {a z : Pnt} (hm : 1 ≤ m) (hn : ts.length = m + 1) (ha : ts[0]? = some a) (hz : ts[m]? = some z) (h0 : pntE (ts.map noFlow) = 0) :
    retV (ts.map noFlow) = .tuple #[(Value.agg #[Value.string ⟨List.toArray (fN (Rat.divInt (val z.vl) (val a.vl) - 1))⟩, Value.string ⟨List.toArray (fD (Rat.divInt (val z.vl) (val a.vl) - 1))⟩]), .int .i64 0] ∧ dtzV (ts.map noFlow) = retV (ts.map noFlow) ∧ val a.vl ≠ 0 := by
  cases hts : ts with
  | nil => rw [hts] at hn; cases hn
  | cons a' r =>
    have haa : a' = a := by rw [hts] at ha; simpa using ha
    subst haa
    have hr : r ≠ [] := fun e => by rw [hts, e] at hn; simp at hn; omega
    rw [hts] at h0 hn hz
    have hd := first_vals (a := noFlow a') (ts := r) hr h0
    obtain ⟨-, -, hp, -, -⟩ := pntE_ok h0
    have hpos : 0 < val a'.vl := by
      cases hr2 : r with
      | nil => exact absurd hr2 hr
      | cons b s =>
        rw [hr2] at hp
        have := hp.1
        have e : (ptZ (noFlow a')).2.2 = 0 := val_nil
        have h5 : 0 < (ptZ (noFlow a')).2.1 + (ptZ (noFlow a')).2.2 := this
        rw [e, Int.add_zero] at h5
        exact h5
    have hr3 : pts (r.map noFlow) ≠ [] := fun e => hr (by
      have := congrArg List.length e
      rw [pts_len, List.length_map] at this
      exact List.length_eq_zero_iff.1 this)
    have key := facs_still (pts (r.map noFlow)) (ptZ (noFlow a')) (val a'.vl) hpos hp (pts_noFlow r) (by show val a'.vl + val [] = _; rw [val_nil, Int.add_zero])
    rw [dif_neg hr3] at key
    have hl : ((pts (r.map noFlow)).getLast hr3).2.1 = val z.vl := by
      obtain ⟨k, rfl⟩ : ∃ k, m = k + 1 := ⟨m - 1, by omega⟩
      have hz2 : r[k]? = some z := by simpa using hz
      have hz3 : (pts (r.map noFlow))[k]? = some (ptZ (noFlow z)) := pts_at (by rw [List.getElem?_map, hz2]; rfl)
      have hlen : (pts (r.map noFlow)).length = k + 1 := by rw [pts_len, List.length_map]; simp at hn; omega
      rw [last_at hlen hz3 hr3]; rfl
    rw [hl] at key
    refine ⟨?_, hd, by omega⟩
    rw [ret_form h0]
    have e : pts ((a' :: r).map noFlow) = ptZ (noFlow a') :: pts (r.map noFlow) := rfl
    rw [e, key]
end Go.Proofs.YtmjglcgdcclinaaGreatDoor
