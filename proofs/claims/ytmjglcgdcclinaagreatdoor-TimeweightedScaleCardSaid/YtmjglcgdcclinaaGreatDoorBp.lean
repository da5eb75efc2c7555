/- A drawn region with a pinch: all operations ahead of it are used by it, all behind it wait for it. -/
import Derived.Test.YtmjglcgdcclinaaGreatDoorBr
namespace Go.Proofs.YtmjglcgdcclinaaGreatDoor
open Go.RowKit
section
variable {P : Program} {md : Region.Mode}
theorem wpAny_more {ops : Array Oper} {Q : Exit → Act → World → Prop} : ∀ (fuel : Nat) (listed : Array Bool) (a : Act) (w : World), wpAny P md ops Q fuel listed a w → wpAny P md ops Q (fuel + 1) listed a w
  | 0, _, _, _, h => ⟨fun _ => h.2, fun i hi => by rw [h.1] at hi; cases hi⟩
  | n + 1, _, _, _, h => ⟨h.1, fun i hi => wpOp_mono (fun a' w' h' => wpAny_more n _ a' w' h') (h.2 i hi)⟩
theorem wpAny_more' {ops : Array Oper} {Q : Exit → Act → World → Prop} {listed : Array Bool} {a : Act} {w : World} {m : Nat} : ∀ (k : Nat), wpAny P md ops Q m listed a w → wpAny P md ops Q (k + m) listed a w
  | 0, h => by rw [Nat.zero_add]; exact h
  | k + 1, h => by rw [show k + 1 + m = (k + m) + 1 by omega]; exact wpAny_more _ _ _ _ (wpAny_more' k h)
def tailB (md : Region.Mode) (n : Nat) (T : List Oper) : Bool := T.all (fun o => o.after.any (fun e => Region.binds md e && decide (n ≤ e.on)))
theorem app_getD {x : Array Bool} {m j : Nat} (d : Bool) (h : j < x.size) : (x ++ Array.replicate m false).getD j d = x.getD j d := by
  rw [Array.getD_eq_getD_getElem?, Array.getD_eq_getD_getElem?, Array.getElem?_append_left h]
theorem app_getD2 {x : Array Bool} {m j : Nat} (h : x.size ≤ j) : (x ++ Array.replicate m false).getD j false = false := by
  rw [Array.getD_eq_getD_getElem?, Array.getElem?_append_right h, Array.getElem?_replicate]
  split <;> rfl
theorem app_set {x : Array Bool} {m j : Nat} (h : j < x.size) : (x ++ Array.replicate m false).setIfInBounds j true = x.setIfInBounds j true ++ Array.replicate m false := by
  apply Array.ext_getElem?
  intro k
  by_cases hk : j = k
  · subst hk
    rw [Array.getElem?_append_left (by simpa using h), Array.getElem?_setIfInBounds_self, Array.getElem?_setIfInBounds_self]
    simp [h, Nat.lt_add_right]
  · rw [Array.getElem?_setIfInBounds_ne hk]
    by_cases h2 : k < x.size
    · rw [Array.getElem?_append_left h2, Array.getElem?_append_left (by simpa using h2), Array.getElem?_setIfInBounds_ne hk]
    · rw [Array.getElem?_append_right (by omega), Array.getElem?_append_right (by simp; omega)]
      simp
section
variable {L T : List Oper} {st : Oper} {listed listed0 : Array Bool}
theorem pn_get {i : Nat} (hi : i < L.length + 1) : (L ++ st :: T)[i]? = (L ++ [st])[i]? := by
  rw [show L ++ st :: T = (L ++ [st]) ++ T by simp, List.getElem?_append_left (by simpa using hi)]
theorem pn_ready (t : Tw L st md listed listed0) (hU : usedB md L st = true) {i : Nat} (hi : i < L.length + 1) (h : i ∈ Region.ready md (L ++ st :: T).toArray (listed ++ Array.replicate T.length false)) : i ∈ Region.ready md (L ++ [st]).toArray listed := by
  obtain ⟨h0, o, ho, hall⟩ := mem_ready.1 h
  have ho1 : (L ++ st :: T)[i]? = some o := by simpa using ho
  rw [pn_get hi] at ho1
  rw [mem_ready]
  refine ⟨by rw [app_getD _ (by rw [t.s]; exact hi)] at h0; exact h0, o, by simpa using ho1, fun e he hb => ?_⟩
  have h2 := usedB_back hU ho1 e he
  have h3 := hall e he hb
  rwa [app_getD _ (by rw [t.s]; omega)] at h3
theorem pn_ready' (t : Tw L st md listed listed0) (hU : usedB md L st = true) {i : Nat} (hi : i < L.length + 1) (h : i ∈ Region.ready md (L ++ [st]).toArray listed) : i ∈ Region.ready md (L ++ st :: T).toArray (listed ++ Array.replicate T.length false) := by
  obtain ⟨h0, o, ho, hall⟩ := mem_ready.1 h
  have ho1 : (L ++ [st])[i]? = some o := by simpa using ho
  rw [mem_ready]
  refine ⟨by rw [app_getD _ (by rw [t.s]; exact hi)]; exact h0, o, by
    have := (pn_get (L := L) (st := st) (T := T) hi).trans ho1
    simpa using this, fun e he hb => ?_⟩
  have h2 := usedB_back hU ho1 e he
  have h3 := hall e he hb
  rwa [app_getD _ (by rw [t.s]; omega)]
theorem pn_tail (t : Tw L st md listed listed0) (hT : tailB md L.length T = true) {i : Nat} (hi : L.length + 1 ≤ i) : i ∉ Region.ready md (L ++ st :: T).toArray (listed ++ Array.replicate T.length false) := by
  intro h
  obtain ⟨h0, o, ho, hall⟩ := mem_ready.1 h
  have ho1 : (L ++ st :: T)[i]? = some o := by simpa using ho
  rw [show L ++ st :: T = (L ++ [st]) ++ T by simp, List.getElem?_append_right (by simpa using hi)] at ho1
  have hm := List.mem_of_getElem? ho1
  have h1 := (List.all_eq_true.1 hT) o hm
  rw [Array.any_eq_true] at h1
  obtain ⟨m, hm2, he⟩ := h1
  simp only [Bool.and_eq_true, decide_eq_true_eq] at he
  have h3 := hall _ (Array.getElem_mem hm2) he.1
  by_cases he2 : o.after[m].on < L.length + 1
  · have : o.after[m].on = L.length := by omega
    rw [this, app_getD _ (by rw [t.s]; omega), ← getD_tf (by rw [t.s]; omega), t.last] at h3
    cases h3
  · rw [app_getD2 (by rw [t.s]; omega)] at h3
    cases h3
theorem pn_end (t : Tw L st md listed listed0) (hall : ∀ j, j < L.length → listed0.getD j true = true) : (listed ++ Array.replicate T.length false).setIfInBounds L.length true = Array.replicate (L.length + 1) true ++ Array.replicate T.length false := by
  rw [app_set (by rw [t.s]; omega)]
  congr 1
  apply Array.ext
  · simp [t.s]
  · intro i h1 h2
    have h1' : i < listed.size := by simpa using h1
    have h1'' : i < L.length + 1 := by rw [t.s] at h1'; exact h1'
    rw [Array.getElem_replicate]
    by_cases hi : L.length = i
    · subst hi
      rw [Array.getElem_setIfInBounds_self]
    · rw [Array.getElem_setIfInBounds_ne h1' hi]
      have h3 := (t.same i (by omega)).trans (hall i (by omega))
      simpa [h1'] using h3
theorem wpAny_pinch {Q : Exit → Act → World → Prop} (hU : usedB md L st = true) (hT : tailB md L.length T = true) (hg : st.guard = none) (hgs : ∀ o ∈ L, o.guard = none) :
    ∀ (fuel : Nat) (listed listed0 : Array Bool) (a : Act) (w : World), Tw L st md listed listed0 →
    wpAny P md L.toArray (Exit.then (wpList P (L ++ st :: T).toArray (Exit.then (wpAny P md (L ++ st :: T).toArray Q T.length (Array.replicate (L.length + 1) true ++ Array.replicate T.length false)) Q) [st]) Q) fuel listed0 a w →
    wpAny P md (L ++ st :: T).toArray Q (fuel + T.length + 1) (listed ++ Array.replicate T.length false) a w := by
  have lo : LetsOut (Exit.then (wpAny P md (L ++ st :: T).toArray Q T.length (Array.replicate (L.length + 1) true ++ Array.replicate T.length false)) Q) → LetsOut Q := fun ⟨a, w, h⟩ => ⟨a, w, h⟩
  have lo2 : LetsOut (Exit.then (wpList P (L ++ st :: T).toArray (Exit.then (wpAny P md (L ++ st :: T).toArray Q T.length (Array.replicate (L.length + 1) true ++ Array.replicate T.length false)) Q) [st]) Q) → LetsOut Q := fun ⟨a, w, h⟩ => ⟨a, w, h⟩
  have fin : ∀ (fuel : Nat) (listed listed0 : Array Bool) (a : Act) (w : World), Tw L st md listed listed0 → (∀ j, j < L.length → listed0.getD j true = true) → wpList P (L ++ st :: T).toArray (Exit.then (wpAny P md (L ++ st :: T).toArray Q T.length (Array.replicate (L.length + 1) true ++ Array.replicate T.length false)) Q) [st] a w →
      wpOp P (L ++ st :: T).toArray Q L.length (wpAny P md (L ++ st :: T).toArray Q (fuel + T.length) ((listed ++ Array.replicate T.length false).setIfInBounds L.length true)) a w := by
    intro fuel listed listed0 a w t hall h
    rw [pn_end t hall]
    unfold wpList at h
    unfold wpOp
    simp only [List.getElem?_toArray, List.getElem?_append_right (Nat.le_refl _), Nat.sub_self, List.getElem?_cons_zero]
    simp only [wanted_free hg, if_true] at h ⊢
    rcases h with h | h
    · exact .inl (Oper.wp_mono2 (fun a w h => wpAny_more' fuel h) (fun _ _ _ h => h) lo h)
    · exact .inr ⟨h.1, lo h.2⟩
  intro fuel
  induction fuel with
  | zero =>
    intro listed listed0 a w t h
    have hall := t.all hU h.1
    refine ⟨fun h0 => ?_, fun i hi => ?_⟩
    · have := pn_ready' (T := T) t hU (by omega) (t.ready_last hU hall); rw [h0] at this; cases this
    · rcases Nat.lt_trichotomy i L.length with hil | hil | hil
      · have := t.ready hU hil (pn_ready t hU (by omega) hi); rw [h.1] at this; cases this
      · subst hil
        exact fin 0 _ _ _ _ t hall h.2
      · exact absurd hi (pn_tail t hT (by omega))
  | succ fuel ih =>
    intro listed listed0 a w t h
    refine ⟨fun h0 => ?_, fun i hi => ?_⟩
    · have hr0 : Region.ready md L.toArray listed0 = [] := by
        apply List.eq_nil_iff_forall_not_mem.2
        intro j hj
        obtain ⟨j0, o, ho, hall⟩ := mem_ready.1 hj
        have hjl : j < L.length := by have := (Array.getElem?_eq_some_iff.1 ho).1; simpa using this
        have : j ∈ Region.ready md (L ++ [st]).toArray listed := by
          rw [mem_ready]
          have ho2 : (L ++ [st])[j]? = some o := by rw [List.getElem?_append_left hjl]; simpa using ho
          refine ⟨by rw [t.same j hjl]; exact j0, o, by simpa using ho2, fun e he hb => ?_⟩
          have h2 := usedB_back hU ho2 e he
          have h3 := hall e he hb
          rw [← getD_tf (by rw [t.s]; omega), t.same e.on (by omega), getD_tf (by rw [t.s0]; omega)]
          exact h3
        have := pn_ready' (T := T) t hU (by omega) this
        rw [h0] at this; cases this
      have := pn_ready' (T := T) t hU (by omega) (t.ready_last hU (t.all hU hr0)); rw [h0] at this; cases this
    · rcases Nat.lt_trichotomy i L.length with hil | hil | hil
      · have hi1 := pn_ready t hU (by omega) hi
        have hi0 := t.ready hU hil hi1
        have h1 := h.2 i hi0
        have t' := t.step hU hil hi1
        obtain ⟨hun, o, ho, _⟩ := mem_ready.1 hi0
        have hoL : o ∈ L := by
          have : L[i]? = some o := by simpa using ho
          exact List.mem_of_getElem? this
        have ho2 : (L ++ st :: T).toArray[i]? = some o := by
          have : (L ++ st :: T)[i]? = some o := by rw [List.getElem?_append_left hil]; simpa using ho
          simpa using this
        rw [app_set (by rw [t.s]; omega), show fuel + 1 + T.length = fuel + T.length + 1 by omega]
        unfold wpOp at h1 ⊢
        simp only [ho, ho2, wanted_free (hgs o hoL), if_true] at h1 ⊢
        rcases h1 with h1 | h1
        · exact .inl (Oper.wp_mono2 (fun a w h => ih _ _ _ _ t' h) (fun _ _ _ h => h) lo2 h1)
        · exact .inr ⟨h1.1, lo2 h1.2⟩
      · subst hil
        have hall := t.of_last hU (pn_ready t hU (by omega) hi)
        have hr0 : Region.ready md L.toArray listed0 = [] := by
          apply List.eq_nil_iff_forall_not_mem.2
          intro j hj
          obtain ⟨j0, o, ho, _⟩ := mem_ready.1 hj
          have hjl : j < L.length := by have := (Array.getElem?_eq_some_iff.1 ho).1; simpa using this
          rw [hall j hjl] at j0; cases j0
        have := fin (fuel + 1) _ _ _ _ t hall (h.1 hr0)
        exact this
      · exact absurd hi (pn_tail t hT (by omega))
end
/-- the walk: the operations ahead of number n in the order of the text, then n itself by a plain walk, then the rest in the order of the text -/
theorem wp_region_pinch {id : Nat} {Q : Exit → Act → World → Prop} {a : Act} {w : World} {L T : List Oper} {st : Oper} (hm : P.follows .mixedOrders = true) (hB : Region.lexB .any L.toArray = true) (hU : usedB .any L st = true) (hT : tailB .any L.length T = true) (hg : (L ++ [st]).all (fun o => o.guard.isNone) = true)
    (hs : Region.noSelect (L ++ st :: T).toArray = true) (hX : Region.lexFrom .any (L ++ st :: T).toArray T.length (L.length + 1) (Array.replicate (L.length + 1) true ++ Array.replicate T.length false) = true)
    (h : wpKept P L.toArray (fun w' => Below w.heap.size w w') (fun a' B => ∀ ρ w', Fits w ρ B w' → wpList P (L ++ st :: T).toArray (Exit.then (fun a2 w2 => wpKept P (L ++ st :: T).toArray (fun w3 => Below w2.heap.size w2 w3) (fun a3 B => ∀ ρ w3, Fits w2 ρ B w3 → Q .normal (a3 ρ) w3) T (L.length + 1) (fun _ => a2) (fun _ => none)) Q) [st] (a' ρ) w') L 0 (fun _ => a) (fun _ => none)) : (Code.region id (L ++ st :: T).toArray true).wp P Q a w := by
  simp only [Region.lexB, Bool.and_eq_true] at hB
  have hgs : ∀ o ∈ L ++ [st], o.guard = none := fun o ho => by
    have := (List.all_eq_true.1 hg) o ho
    simpa using this
  refine wp_region_any hm ?_
  have hf : Fits w (fun _ => 0) (fun _ => none) { w with drawn := w.drawn + 1 } :=
    ⟨⟨rfl, rfl, rfl, Nat.le_refl _, fun _ _ => rfl⟩, fun _ _ _ h => (by cases h), fun _ _ h => absurd rfl h⟩
  have g1 : st.guard = none := hgs st (by simp)
  have h1 := wpAnyK_lex (C := fun w' => Below w.heap.size w w') (md := .any) hB.1 L 0 (Array.replicate L.toArray.size false) (fun _ => a) (fun _ => none) (by simp) (by simpa using hB.2) h
  have h2 := wpAny_of_kept (P := P) (md := .any) (Q := fun a' B => ∀ ρ w', Fits w ρ B w' → wpList P (L ++ st :: T).toArray (Exit.then (fun a2 w2 => wpKept P (L ++ st :: T).toArray (fun w3 => Below w2.heap.size w2 w3) (fun a3 B => ∀ ρ w3, Fits w2 ρ B w3 → Q .normal (a3 ρ) w3) T (L.length + 1) (fun _ => a2) (fun _ => none)) Q) [st] (a' ρ) w') (Q' := Exit.then (wpList P (L ++ st :: T).toArray (Exit.then (wpAny P .any (L ++ st :: T).toArray Q T.length (Array.replicate (L.length + 1) true ++ Array.replicate T.length false)) Q) [st]) Q) (fun a' B ρ w' hf' h' => by
    have h3 := h' ρ w' hf'
    show wpList P (L ++ st :: T).toArray _ [st] (a' ρ) w'
    rw [wpList] at h3 ⊢
    simp only [wanted_free g1, if_true] at h3 ⊢
    rcases h3 with h3 | h3
    · refine .inl (Oper.wp_mono2 (fun a2 w2 h => ?_) (fun _ _ _ h => h) (fun ⟨a, w, h⟩ => ⟨a, w, h⟩) h3)
      have k1 := wpAnyK_lex (C := fun w3 => Below w2.heap.size w2 w3) (md := .any) hs T (L.length + 1) (Array.replicate (L.length + 1) true ++ Array.replicate T.length false) (fun _ => a2) (fun _ => none) (fun j => by
        rw [show L ++ st :: T = (L ++ [st]) ++ T by simp]
        simp only [List.getElem?_toArray]
        rw [List.getElem?_append_right (by simp)]
        simp) hX h
      have hf2 : Fits w2 (fun _ => 0) (fun _ => none) w2 := ⟨Below.refl _ _, fun _ _ _ h => (by cases h), fun _ _ h => absurd rfl h⟩
      exact wpAny_of_kept (P := P) (md := .any) (Q' := Q) (fun a' B ρ w' hf' h' => h' ρ w' hf') _ _ _ _ (fun _ => 0) _ hf2 (fun _ _ _ _ => rfl) k1
    · exact .inr ⟨h3.1, (fun ⟨a, w, h⟩ => ⟨a, w, h⟩) h3.2⟩) L.toArray.size _ (fun _ => a) (fun _ => none) (fun _ => 0) _ hf (fun _ _ _ _ => rfl) (by simpa using h1)
  have h3 := wpAny_pinch (P := P) (md := .any) (T := T) hU hT g1 (fun o ho => hgs o (by simp [ho])) _ _ _ a _ (tw_start L st) h2
  have e1 : (Array.replicate (L ++ [st]).toArray.size false ++ Array.replicate T.length false : Array Bool) = Array.replicate (L ++ st :: T).toArray.size false := by
    rw [Array.replicate_append_replicate]
    congr 1
    simp; omega
  rw [e1] at h3
  have e2 : L.toArray.size + T.length + 1 = (L ++ st :: T).toArray.size := by simp; omega
  rw [e2] at h3
  exact h3
theorem wp_region_pinchD {id : Nat} {Q : Exit → Act → World → Prop} {a : Act} {w : World} {l : List Oper} (n : Nat) (L T : List Oper) (st : Oper) (he : l = L ++ st :: T) (hm : P.follows .mixedOrders = true) (hB : Region.lexB .any L.toArray = true) (hU : usedB .any L st = true) (hT : tailB .any L.length T = true) (hg : (L ++ [st]).all (fun o => o.guard.isNone) = true)
    (hs : Region.noSelect l.toArray = true) (hX : Region.lexFrom .any l.toArray T.length (L.length + 1) (Array.replicate (L.length + 1) true ++ Array.replicate T.length false) = true) (hn : L.length + 1 = n)
    (h : wpKept P L.toArray (fun w' => Below w.heap.size w w') (fun a' B => ∀ ρ w', Fits w ρ B w' → wpList P l.toArray (Exit.then (fun a2 w2 => wpKept P l.toArray (fun w3 => Below w2.heap.size w2 w3) (fun a3 B => ∀ ρ w3, Fits w2 ρ B w3 → Q .normal (a3 ρ) w3) T n (fun _ => a2) (fun _ => none)) Q) [st] (a' ρ) w') L 0 (fun _ => a) (fun _ => none)) : (Code.region id l.toArray true).wp P Q a w := by
  subst he hn
  exact wp_region_pinch hm hB hU hT hg hs hX h
theorem wp_region_pinchN {id : Nat} {Q : Exit → Act → World → Prop} {a : Act} {w : World} {l : List Oper} (n : Nat) (hn : n < l.length) (hm : P.follows .mixedOrders = true) (hB : Region.lexB .any (l.take n).toArray = true) (hU : usedB .any (l.take n) (l[n]'hn) = true) (hT : tailB .any n (l.drop (n + 1)) = true) (hg : (l.take n ++ [l[n]'hn]).all (fun o => o.guard.isNone) = true)
    (hs : Region.noSelect l.toArray = true) (hX : Region.lexFrom .any l.toArray (l.drop (n + 1)).length (n + 1) (Array.replicate (n + 1) true ++ Array.replicate (l.drop (n + 1)).length false) = true)
    (h : wpKept P (l.take n).toArray (fun w' => Below w.heap.size w w') (fun a' B => ∀ ρ w', Fits w ρ B w' → wpList P l.toArray (Exit.then (fun a2 w2 => wpKept P l.toArray (fun w3 => Below w2.heap.size w2 w3) (fun a3 B => ∀ ρ w3, Fits w2 ρ B w3 → Q .normal (a3 ρ) w3) (l.drop (n + 1)) (n + 1) (fun _ => a2) (fun _ => none)) Q) [l[n]'hn] (a' ρ) w') (l.take n) 0 (fun _ => a) (fun _ => none)) : (Code.region id l.toArray true).wp P Q a w := by
  have hl : (l.take n).length = n := by rw [List.length_take]; omega
  exact wp_region_pinchD (P := P) (n + 1) (l.take n) (l.drop (n + 1)) (l[n]'hn) (by rw [← List.drop_eq_getElem_cons hn, List.take_append_drop]) hm hB hU (by rw [hl]; exact hT) hg hs (by rw [hl]; exact hX) (by rw [hl]) h
theorem wpList_call_end {ops : Array Oper} {K : Act → World → Prop} {Q : Exit → Act → World → Prop} {st : Oper} {a : Act} {w : World} {f : FuncId} {args : Array Value} {R : Ending → World → Prop} (hg : st.guard = none) (hr : (execOp a.eval st).run P w = .ok (.enter f args) w) (hc : Calls P f args w R)
    (h : ∀ e w', R e w' → ∃ v, e = .returned v ∧ K (a.put st.dst v) w') : wpList P ops (Exit.then K Q) [st] a w := by
  unfold wpList
  simp only [wanted_free hg, if_true]
  refine .inl ?_
  unfold Oper.wp
  rw [hr]
  refine hc.mono fun e w' hR => ?_
  obtain ⟨v, rfl, hK⟩ := h e w' hR
  exact hK
end
end Go.Proofs.YtmjglcgdcclinaaGreatDoor
