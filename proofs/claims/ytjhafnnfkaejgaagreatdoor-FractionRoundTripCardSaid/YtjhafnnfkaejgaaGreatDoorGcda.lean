/- Package integer: Gcd: the iterator steps$1. -/
import Derived.RangeFuncNested
import Derived.RangeFuncBound
import Derived.RangeFuncCalls
import Derived.RangeFuncLeaves
import Derived.Shelf.Abstract
import Derived.Shelf.RegionOpen
import Derived.WalkKit
import Derived.OwnWalkIn
import Derived.TacticsInMore
import Derived.LoopNIn
import Derived.LoopIn
import Derived.Test.YtjhafnnfkaejgaaGreatDoorIntg
namespace Go.Proofs.YtjhafnnfkaejgaaGreatDoor
open Go.RowKit Go.Shelf Num
attribute [local go_sem] Oper.semAt_some

/-- a box of one slice -/
def Box (W : World) (b : Nat) (v : Value) : Prop := W.heap[b]? = some (.cells #[v] 68 (0, 0))
theorem Box.cell {W : World} {b : Nat} {v : Value} (h : Box W b v) : W.cell? ⟨b, 0, none⟩ = some v := by unfold Box at h; simp [World.cell?, h]
theorem Box.frozen {W : World} {b : Nat} {v : Value} (h : Box W b v) : W.frozen? ⟨b, 0, none⟩ = false := by unfold Box at h; simp [World.frozen?, h]
theorem Box.lt {W : World} {b : Nat} {v : Value} (h : Box W b v) : b < W.heap.size := (Array.getElem?_eq_some_iff.1 h).1
theorem Box.set {W : World} {b : Nat} {v : Value} (h : Box W b v) (u : Value) : Box (W.setCell ⟨b, 0, none⟩ u) b u := by
  unfold Box at *
  obtain ⟨hlt, hk⟩ := Array.getElem?_eq_some_iff.1 h
  show (W.heap.modify b _)[b]? = _
  rw [Array.getElem?_eq_getElem (by rw [Array.size_modify]; exact hlt), Array.getElem_modify_self, hk]
  rfl
theorem Box.other {W W' : World} {b : Nat} {v : Value} (h : Box W b v) (e : W'.heap[b]? = W.heap[b]?) : Box W' b v := e.trans h
theorem Box.far {W : World} {b b' : Nat} {v : Value} (h : Box W b v) (e : b ≠ b') (u : Value) : Box (W.setCell ⟨b', 0, none⟩ u) b v := h.other (Below.heap_setCell W ⟨b', 0, none⟩ u b e)
theorem Box.below {W W' : World} {b : Nat} {v : Value} (h : Box W b v) (k : Below W.heap.size W W') : Box W' b v := h.other (k.block b h.lt)
theorem own_same {W W' : World} {base n : Nat} {v : Value} {xs : List Value} (h : W.ownsRow base 95 1 v n xs)
    (hk : ∀ (k : Nat) (cur : Array Value), W.heap[k]? = some (Obj.cells cur 95 (0, 0)) → W'.heap[k]? = W.heap[k]?) : W'.ownsRow base 95 1 v n xs := by
  refine ⟨h.1, ?_⟩
  rcases h.2 with h0 | ⟨g, cap, cur, hv, hb1, hh, hr⟩
  · exact .inl h0
  · exact .inr ⟨g, cap, cur, hv, hb1, (hk g cur hh).trans hh, hr⟩
theorem own_box {W : World} {base n b : Nat} {v z u : Value} {xs : List Value} (h : W.ownsRow base 95 1 v n xs) (hb : Box W b z) : (W.setCell ⟨b, 0, none⟩ u).ownsRow base 95 1 v n xs :=
  own_same h fun k cur hk => Below.heap_setCell W ⟨b, 0, none⟩ u k (fun e => by
    subst e; unfold Box at hb; rw [hb] at hk; simp at hk)
/-- the box b holds the number m -/
def Has (W : World) (b m : Nat) : Prop := ∃ A n c, Box W b (.slice A n c) ∧ W.ownsRow 0 95 1 (.slice A n c) n (U (grp m)) ∧ n ≤ 100000000
theorem U_inj {l l' : List Nat} (h : U l = U l') : l = l' := by
  unfold U at h
  refine (List.map_inj_right (fun a b e => ?_)).1 h
  simp at e; exact Int.ofNat.inj e
theorem own_val {W : World} {base base' n n' : Nat} {v : Value} {xs ys : List Value} {e : TypeId} (h : W.ownsRow base e 1 v n xs) (h' : W.ownsRow base' e 1 v n' ys) : xs = ys := by
  rcases h.2 with ⟨h0, h1⟩ | ⟨g, cap, cur, hv, hb1, hh, _, _, _, hr⟩
  · rcases h'.2 with ⟨h0', h1'⟩ | ⟨g', cap', cur', hv', _⟩
    · have := h.1; have := h'.1; subst h1 h1'
      rw [List.eq_nil_of_length_eq_zero (l := xs) (by omega), List.eq_nil_of_length_eq_zero (l := ys) (by omega)]
    · rw [h0] at hv'; simp at hv'
  · rcases h'.2 with ⟨h0', h1'⟩ | ⟨g', cap', cur', hv', _, hh', _, _, _, hr'⟩
    · rw [h0'] at hv; simp at hv
    · rw [hv] at hv'; simp at hv'
      obtain ⟨rfl, rfl, rfl⟩ := hv'
      rw [hh] at hh'; simp at hh'
      subst hh'; rw [← hr, ← hr']
theorem Has.uniq {W : World} {b m m' : Nat} (h : Has W b m) (h' : Has W b m') : m = m' := by
  obtain ⟨A, n, c, hb, ho, _⟩ := h
  obtain ⟨A', n', c', hb', ho', _⟩ := h'
  unfold Box at hb hb'
  rw [hb] at hb'; simp at hb'
  obtain ⟨rfl, rfl, rfl⟩ := hb'
  have := U_inj (own_val ho ho')
  rw [← gv_grp m, ← gv_grp m', this]
open Classical in
noncomputable def numAt (W : World) (b : Nat) : Nat := if h : ∃ m, Has W b m then Classical.choose h else 0
theorem numAt_eq {W : World} {b m : Nat} (h : Has W b m) : numAt W b = m := by
  unfold numAt
  rw [dif_pos ⟨m, h⟩]
  exact (Classical.choose_spec (⟨m, h⟩ : ∃ m, Has W b m)).uniq h
theorem Has.below {W W' : World} {b m : Nat} (h : Has W b m) (k : Below W.heap.size W W') : Has W' b m := by
  obtain ⟨A, n, c, hb, ho, hn⟩ := h
  exact ⟨A, n, c, hb.below k, own_below ho k, hn⟩
/-- a round: the record is busy, out is set, the record is ready -/
def roundW (W : World) (l bo : Nat) (R R' : Loop) (p : Value) : World := ((W.putObj l (.loop R')).setCell ⟨bo, 0, none⟩ p).putObj l (.loop R)
theorem roundW_other {W : World} {l bo k : Nat} {R R' : Loop} {p : Value} (h1 : k ≠ l) (h2 : k ≠ bo) : (roundW W l bo R R' p).heap[k]? = W.heap[k]? := by
  unfold roundW
  rw [World.putObj_heap_other h1, Below.heap_setCell _ _ _ _ (by exact h2), World.putObj_heap_other h1]
theorem roundW_size {W : World} {l bo : Nat} {R R' : Loop} {p : Value} : (roundW W l bo R R' p).heap.size = W.heap.size := by
  simp [roundW]
theorem roundW_own {W : World} {l bo base n : Nat} {R R' : Loop} {p v z : Value} {xs : List Value} (h : W.ownsRow base 95 1 v n xs) (hb : Box W bo z) (hl : W.heap[l]? = some (.loop R)) : (roundW W l bo R R' p).ownsRow base 95 1 v n xs :=
  own_same h fun k cur hk => roundW_other (fun e => by subst e; rw [hl] at hk; simp at hk) (fun e => by subst e; unfold Box at hb; rw [hb] at hk; simp at hk)
theorem roundW_loop {W : World} {l bo : Nat} {R R' : Loop} {p : Value} (hl : W.heap[l]? = some (.loop R)) : (roundW W l bo R R' p).heap[l]? = some (.loop R) := by
  unfold roundW
  exact World.putObj_heap_same (by simp; exact (Array.getElem?_eq_some_iff.1 hl).1)
theorem roundW_box {W : World} {l bo : Nat} {R R' : Loop} {p z : Value} (hb : Box W bo z) (e : bo ≠ l) : Box (roundW W l bo R R' p) bo p := by
  have h1 : Box (W.putObj l (.loop R')) bo z := hb.other (World.putObj_heap_other e)
  have h2 := h1.set p
  exact h2.other (World.putObj_heap_other e)
theorem below_round {w W : World} {l bo : Nat} {R R' : Loop} {p : Value} (h : Below w.heap.size w W) (e4 : w.heap.size ≤ l) (e1 : w.heap.size ≤ bo) : Below w.heap.size w (roundW W l bo R R' p) :=
  h.trans ⟨rfl, rfl, rfl, by rw [roundW_size]; exact Nat.le_refl _, fun k hk => roundW_other (by omega) (by omega)⟩

set_option maxRecDepth 100000 in
set_option maxHeartbeats 2000000 in
theorem steps1_in (m l bo bm bn D : Nat) (R R' : Loop) (w W : World) (x y : Nat)
    (hY : ∀ (W : World) (A A' : Option Addr) (n c n' c' : Nat) (z : Value), W.heap[l]? = some (.loop R) → Box W bo z → YieldAt Fence.wide (m - 1) Tryz.prog l #[.slice A n c, .slice A' n' c'] W fun e W' => e = .returned (.bool true) ∧ W' = roundW W l bo R R' (.slice A n c))
    (d1 : bm ≠ bo) (d2 : bn ≠ bo) (d3 : bm ≠ l) (d4 : bn ≠ l) (d5 : bo ≠ l) (d6 : bm ≠ bn) (d7 : D ≠ l) (d8 : D ≠ bo) (d9 : D ≠ bm) (d10 : D ≠ bn)
    (e1 : w.heap.size ≤ bo) (e2 : w.heap.size ≤ bm) (e3 : w.heap.size ≤ bn) (e4 : w.heap.size ≤ l)
    (hl : W.heap[l]? = some (.loop R)) (hD : W.heap[D]? = some (.deferred (some []))) (ho : ∃ z, Box W bo z) (hm : Has W bm x) (hn : Has W bn y) (hw : Below w.heap.size w W) :
    CallsIn Fence.wide m Tryz.prog 105 #[.func (.yield l) #[] #[], .pointer (some ⟨bm, 0, none⟩), .pointer (some ⟨bn, 0, none⟩)] W fun e W' => (∃ v, e = .returned v) ∧
      W'.heap[l]? = some (.loop R) ∧ W'.heap[D]? = some (.deferred (some [])) ∧ Has W' bo (Nat.gcd x y) ∧ Below w.heap.size w W' := by
  refine callsIn_of_wp Tryz.func105 rfl trivial ?_ rfl
  simp only [Tryz.ntmps105, List.size_toArray, List.length_cons, List.length_nil, Nat.reduceAdd, Nat.reduceSub, Array.replicate_succ, Array.replicate_zero, List.push_toArray, List.append_toArray, List.nil_append, List.cons_append]
  gi_wp2
  gi_loopw [4] (fun _ wr => ∃ (x' y' : Nat), Nat.gcd x' y' = Nat.gcd x y ∧ wr.heap[l]? = some (.loop R) ∧ wr.heap[D]? = some (.deferred (some [])) ∧ (∃ z, Box wr bo z) ∧ Has wr bm x' ∧ Has wr bn y' ∧ Below w.heap.size w wr)
    (fun _ wr => numAt wr bn)
  case atStart => exact ⟨x, y, rfl, hl, hD, ho, hm, hn, hw⟩
  case round =>
    obtain ⟨x', y', hg, hl, hD, ⟨z, hz⟩, hm, hn, hw⟩ := hrel
    have hny := numAt_eq hn
    have hm' := hm
    have hn' := hn
    obtain ⟨A, n, c, hbm, hom, hnm⟩ := hm
    obtain ⟨A', n', c', hbn, hon, hnn⟩ := hn
    have c1 := hbm.cell
    have c2 := hbn.cell
    obtain ⟨fn, tmps, assign, body, hy, hR⟩ := hY wr A A' n c n' c' z hl hz
    gi_wp2
    refine ⟨fun h => (by cases h), hR.mono ?_⟩
    rintro e W3 ⟨rfl, hW3⟩
    have b0 := roundW_box (R := R) (R' := R') (p := .slice A n c) hz d5
    have b1 := hbm.other (roundW_other (W := wr) (R := R) (R' := R') (p := .slice A n c) d3 d1)
    have b2 := hbn.other (roundW_other (W := wr) (R := R) (R' := R') (p := .slice A n c) d4 d2)
    have o1 := roundW_own (R' := R') (p := .slice A n c) hom hz hl
    have o2 := roundW_own (R' := R') (p := .slice A n c) hon hz hl
    have hl3 := roundW_loop (bo := bo) (R' := R') (p := .slice A n c) hl
    have hD3 := (roundW_other (W := wr) (R := R) (R' := R') (p := .slice A n c) d7 d8).trans hD
    have hw3 := below_round (R := R) (R' := R') (p := .slice A n c) hw e4 e1
    rw [← hW3] at b0 b1 b2 o1 o2 hl3 hD3 hw3
    have c1 := b1.cell
    have c2 := b2.cell
    have f1 := b1.frozen
    have f2 := b2.frozen
    have HO1 := Lib.hid o1
    have HO2 := Lib.hid o2
    have HG := Lib.hid hg
    have HL := Lib.hid (own_len hon)
    clear hW3 hR hy hY
    by_cases hy0 : y' = 0
    · subst hy0
      obtain rfl : n' = 0 := by exact HL.out.symm.trans rfl
      gi_wp2
      go_end0
      refine ⟨⟨_, rfl⟩, hl3, hD3, ⟨A, n, c, b0, ?_, hnm⟩, hw3⟩
      rw [← HG.out, Nat.gcd_zero_right]; exact o1
    · have hn0 : decide (0 < n') = true := by
        have h1 := HL.out
        have : n' ≠ 0 := by intro e; rw [e] at h1; exact hy0 ((grp_eq_nil _).1 (List.eq_nil_of_length_eq_zero h1))
        simp; omega
      gi_wp2_with fail
      refine ⟨trivial, fun h => (by cases h), ?_⟩
      refine (callsIn_wide.2 (divide_any A A' n c n' c' _ _ _ _ _ (by exact HO1.out) (by exact HO2.out) hy0 hnm)).mono ?_
      rintro e w4 ⟨vq, vr, rfl, hmq, hmr, hb4⟩
      obtain ⟨Aq, cq, rfl⟩ := hmq.form
      obtain ⟨Ar, cr, rfl⟩ := hmr.form
      have b2 := b2.below hb4
      have b1 := b1.below hb4
      have b0 := b0.below hb4
      have c1 := b1.cell
      have c2 := b2.cell
      have f1 := b1.frozen
      have f2 := b2.frozen
      gi_wp2
      have hn4 : (grp (x' % y')).length ≤ 100000000 := by
        have h1 := grp_len_mono (x' % y') y' (Nat.le_of_lt (Nat.mod_lt _ (Nat.pos_of_ne_zero hy0)))
        have := HL.out; omega
      have hl4 := (hb4.block l (Array.getElem?_eq_some_iff.1 hl3).1).trans hl3
      have hD4 := (hb4.block D (Array.getElem?_eq_some_iff.1 hD3).1).trans hD3
      have hw4 := hw3.trans (hb4.mono hw3.size)
      have hnew : Has ((w4.setCell ⟨bm, 0, none⟩ (.slice A' n' c')).setCell ⟨bn, 0, none⟩ (.slice Ar (grp (x' % y')).length cr)) bn (x' % y') := ⟨Ar, _, cr, (b2.far (Ne.symm d6) _).set _, own_box (own_box (own_base hmr (Nat.zero_le _)) b1) (b2.far (Ne.symm d6) _), hn4⟩
      go_roundw
      case rel =>
        refine ⟨y', x' % y', ?_, ?_, ?_, ⟨_, (b0.far (Ne.symm d1) _).far (Ne.symm d2) _⟩, ⟨A', n', c', (b1.set _).far d6 _, own_box (own_box (own_below HO2.out hb4) b1) (b2.far (Ne.symm d6) _), hnn⟩, hnew, ?_⟩
        · rw [← HG.out, Nat.gcd_comm y', ← Nat.gcd_rec, Nat.gcd_comm]
        · exact (Below.heap_setCell _ ⟨bn, 0, none⟩ _ l (Ne.symm d4)).trans ((Below.heap_setCell _ ⟨bm, 0, none⟩ _ l (Ne.symm d3)).trans hl4)
        · exact (Below.heap_setCell _ ⟨bn, 0, none⟩ _ D d10).trans ((Below.heap_setCell _ ⟨bm, 0, none⟩ _ D d9).trans hD4)
        · exact (hw4.setCell (p := ⟨bm, 0, none⟩) e2 _).setCell (p := ⟨bn, 0, none⟩) e3 _
      case measure => rw [numAt_eq hnew, hny]; exact Nat.mod_lt _ (Nat.pos_of_ne_zero hy0)
end Go.Proofs.YtjhafnnfkaejgaaGreatDoor
