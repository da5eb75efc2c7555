/- A drawn region whose last operation, a store, waits for all others: the walk in the order of the text, then the store, in whatever block. -/
import Derived.Test.YtmjglcgdcclinaaGreatDoorBk
namespace Go.Proofs.YtmjglcgdcclinaaGreatDoor
open Go.RowKit
section
variable {P : Program} {md : Region.Mode}
/-- each operation but the last is used by a later one; each waits for earlier ones alone -/
def usedB (md : Region.Mode) (l : List Oper) (st : Oper) : Bool :=
  (List.range l.length).all (fun i => (((l ++ [st]).drop (i + 1))).any (fun o => o.after.any (fun e => Region.binds md e && e.on == i))) &&
  (List.range (l.length + 1)).all (fun j => (((l ++ [st])[j]?).map (fun o => o.after.all (fun e => decide (e.on < j)))).getD true)
theorem usedB_use {l : List Oper} {st : Oper} (h : usedB md l st = true) {i : Nat} (hi : i < l.length) : ∃ j o e, i < j ∧ (l ++ [st])[j]? = some o ∧ e ∈ o.after ∧ Region.binds md e = true ∧ e.on = i := by
  simp only [usedB, Bool.and_eq_true, List.all_eq_true, List.mem_range, List.any_eq_true] at h
  obtain ⟨o, ho, hh⟩ := h.1 i hi
  obtain ⟨k, hk⟩ := List.mem_iff_getElem?.1 ho
  rw [List.getElem?_drop] at hk
  rw [Array.any_eq_true] at hh
  obtain ⟨m, hm, he⟩ := hh
  simp only [Bool.and_eq_true, beq_iff_eq] at he
  exact ⟨i + 1 + k, o, o.after[m], by omega, hk, Array.getElem_mem hm, he.1, he.2⟩
theorem usedB_back {l : List Oper} {st : Oper} (h : usedB md l st = true) {j : Nat} {o : Oper} (ho : (l ++ [st])[j]? = some o) : ∀ e ∈ o.after, e.on < j := by
  simp only [usedB, Bool.and_eq_true, List.all_eq_true, List.mem_range] at h
  have hj : j < l.length + 1 := by have := (List.getElem?_eq_some_iff.1 ho).1; simpa using this
  have h2 := h.2 j hj
  rw [ho] at h2
  simp only [Option.map_some, Option.getD_some, Array.all_eq_true_iff_forall_mem] at h2
  intro e he
  simpa using h2 e he
structure Tw (l : List Oper) (st : Oper) (md : Region.Mode) (listed listed0 : Array Bool) : Prop where
  s : listed.size = l.length + 1
  s0 : listed0.size = l.length
  same : ∀ j, j < l.length → listed.getD j true = listed0.getD j true
  last : listed.getD l.length true = false
  down : ∀ j o, j < l.length → listed.getD j true = true → (l ++ [st])[j]? = some o → ∀ e ∈ o.after, Region.binds md e = true → listed.getD e.on true = true
theorem getD_tf {x : Array Bool} {j : Nat} (h : j < x.size) : x.getD j true = x.getD j false := by simp [h]
theorem Tw.all {l : List Oper} {st : Oper} {listed listed0 : Array Bool} (t : Tw l st md listed listed0) (hU : usedB md l st = true) (h : Region.ready md l.toArray listed0 = []) : ∀ j, j < l.length → listed0.getD j true = true := by
  intro j
  induction j using Nat.strongRecOn with
  | _ j ih =>
    intro hj
    by_cases hx : listed0.getD j true = true
    · exact hx
    · have : j ∈ Region.ready md l.toArray listed0 := by
        rw [mem_ready]
        refine ⟨by simpa using hx, l[j], by simp [hj], fun e he _ => ?_⟩
        have h1 : (l ++ [st])[j]? = some l[j] := by rw [List.getElem?_append_left hj]; simp [hj]
        have h2 := usedB_back hU h1 e he
        rw [← getD_tf (by rw [t.s0]; omega)]
        exact ih e.on h2 (by omega)
      rw [h] at this; cases this
theorem Tw.ready_last {l : List Oper} {st : Oper} {listed listed0 : Array Bool} (t : Tw l st md listed listed0) (hU : usedB md l st = true) (h : ∀ j, j < l.length → listed0.getD j true = true) : l.length ∈ Region.ready md (l ++ [st]).toArray listed := by
  rw [mem_ready]
  refine ⟨t.last, st, by simp, fun e he _ => ?_⟩
  have h2 := usedB_back hU (j := l.length) (o := st) (by simp) e he
  rw [← getD_tf (by rw [t.s]; omega), t.same _ h2]
  exact h _ h2
theorem Tw.of_last {l : List Oper} {st : Oper} {listed listed0 : Array Bool} (t : Tw l st md listed listed0) (hU : usedB md l st = true) (h : l.length ∈ Region.ready md (l ++ [st]).toArray listed) : ∀ j, j < l.length → listed0.getD j true = true := by
  obtain ⟨_, o, ho, hall⟩ := mem_ready.1 h
  have hst : o = st := by simpa using ho.symm
  subst hst
  have key : ∀ m j, l.length - j ≤ m → j < l.length → listed.getD j true = true := by
    intro m
    induction m with
    | zero => intro j h1 h2; omega
    | succ m ih =>
      intro j h1 h2
      obtain ⟨k, o', e, hk, ho', he, hb, rfl⟩ := usedB_use hU h2
      by_cases hkl : k < l.length
      · exact t.down k o' hkl (ih k (by omega) hkl) ho' e he hb
      · have hk2 : k = l.length := by have := (List.getElem?_eq_some_iff.1 ho').1; simp at this; omega
        subst hk2
        have ho2 : o' = o := by simpa using ho'.symm
        subst ho2
        have := hall e he hb
        rw [getD_tf (by rw [t.s]; omega)]
        exact this
  intro j hj
  rw [← t.same j hj]
  exact key _ j (Nat.le_refl _) hj
theorem Tw.ready {l : List Oper} {st : Oper} {listed listed0 : Array Bool} (t : Tw l st md listed listed0) (hU : usedB md l st = true) {i : Nat} (hi : i < l.length) (h : i ∈ Region.ready md (l ++ [st]).toArray listed) : i ∈ Region.ready md l.toArray listed0 := by
  obtain ⟨h0, o, ho, hall⟩ := mem_ready.1 h
  have ho2 : (l ++ [st])[i]? = some o := by simpa using ho
  rw [mem_ready]
  refine ⟨by rw [← t.same i hi]; exact h0, o, by rw [List.getElem?_append_left hi] at ho2; simpa using ho2, fun e he hb => ?_⟩
  have h2 := usedB_back hU ho2 e he
  have h3 := hall e he hb
  rw [← getD_tf (by rw [t.s0]; omega), ← t.same e.on (by omega), getD_tf (by rw [t.s]; omega)]
  exact h3
theorem Tw.step {l : List Oper} {st : Oper} {listed listed0 : Array Bool} (t : Tw l st md listed listed0) (hU : usedB md l st = true) {i : Nat} (hi : i < l.length) (h : i ∈ Region.ready md (l ++ [st]).toArray listed) : Tw l st md (listed.setIfInBounds i true) (listed0.setIfInBounds i true) := by
  obtain ⟨h0, o, ho, hall⟩ := mem_ready.1 h
  have ho2 : (l ++ [st])[i]? = some o := by simpa using ho
  refine ⟨by simp [t.s], by simp [t.s0], fun j hj => ?_, by rw [getD_set_ne true (by omega)]; exact t.last, fun j o' hj hl ho' e he hb => ?_⟩
  · by_cases hij : i = j
    · subst hij; simp [t.s, t.s0, hi, Nat.lt_succ_of_lt hi]
    · rw [getD_set_ne true hij, getD_set_ne true hij]; exact t.same j hj
  · by_cases hij : i = j
    · subst hij
      have : o' = o := by rw [ho2] at ho'; injection ho' with h; exact h.symm
      subst this
      have h2 := usedB_back hU ho2 e he
      have h3 := hall e he hb
      rw [getD_set_ne true (by omega), getD_tf (by rw [t.s]; omega)]
      exact h3
    · rw [getD_set_ne true hij] at hl
      have := t.down j o' hj hl ho' e he hb
      by_cases hie : i = e.on
      · rw [← hie]; simp [t.s, Nat.lt_succ_of_lt hi]
      · rw [getD_set_ne true hie]; exact this
theorem yielded_last {l : List Oper} {st : Oper} (hd : st.dst = none) (tmps : Array Value) : yielded (l ++ [st]).toArray tmps = yielded l.toArray tmps := by
  funext j
  unfold yielded
  have : ((l ++ [st]).toArray[j]?).bind (·.dst) = (l.toArray[j]?).bind (·.dst) := by
    by_cases hj : j < l.length
    · simp [List.getElem?_append_left hj]
    · have h1 : l.toArray[j]? = none := by simp; omega
      rw [h1]
      by_cases hj2 : j = l.length
      · subst hj2; simp [hd]
      · have h2 : (l ++ [st]).toArray[j]? = none := by simp; omega
        rw [h2]
  rw [this]
theorem wpAny_of_last {w0 : World} {l : List Oper} {st : Oper} (hU : usedB md l st = true) (hd : st.dst = none) (hg : st.guard = none) {Q' : Exit → Act → World → Prop}
    {Q : St → Bx → Prop} (hQ : ∀ a B ρ w, Fits w0 ρ B w → Q a B → ∃ w'', (execOp (a ρ).eval st).run P w = .ok .skip w'' ∧ Q' .normal (a ρ) w'') :
    ∀ (fuel : Nat) (listed listed0 : Array Bool) (a : St) (B : Bx) (ρ : Nat → Nat) (w : World), Tw l st md listed listed0 → Fits w0 ρ B w → FreeOf listed0 a →
    wpAnyK P md l.toArray (fun w => Below w0.heap.size w0 w) Q fuel listed0 a B → wpAny P md (l ++ [st]).toArray Q' (fuel + 1) listed (a ρ) w := by
  intro fuel
  induction fuel with
  | zero =>
    intro listed listed0 a B ρ w t hf hfr h
    have hall := t.all hU h.1
    refine ⟨fun h0 => ?_, fun i hi => ?_⟩
    · have := t.ready_last hU hall; rw [h0] at this; cases this
    · by_cases hil : i < l.length
      · have := t.ready hU hil hi; rw [h.1] at this; cases this
      · have hi2 : i = l.length := by
          have := (mem_ready.1 hi).2; obtain ⟨o, ho, _⟩ := this
          have := (Array.getElem?_eq_some_iff.1 ho).1; simp at this; omega
        subst hi2
        obtain ⟨w'', hr, hq⟩ := hQ _ _ _ _ hf h.2
        unfold wpOp
        simp only [List.getElem?_toArray, List.getElem?_append_right (Nat.le_refl _), Nat.sub_self, List.getElem?_cons_zero]
        have hw : Region.wanted st (yielded (l ++ [st]).toArray (a ρ).tmps) = true := by unfold Region.wanted; rw [hg]
        simp only [hw, if_true]
        refine .inl ?_
        unfold Oper.wp
        rw [hr]
        simp only [Oper.upon, hd]
        refine ⟨?_, hq⟩
        apply List.eq_nil_iff_forall_not_mem.2
        intro j hj
        have hj0 := (mem_ready.1 hj).1
        by_cases hjl : j = l.length
        · subst hjl; simp [t.s] at hj0
        · have hlt : j < l.length := by
            obtain ⟨o, ho, _⟩ := (mem_ready.1 hj).2
            have := (Array.getElem?_eq_some_iff.1 ho).1; simp at this; omega
          rw [getD_set_ne true (by omega), t.same j hlt, hall j hlt] at hj0; cases hj0
  | succ fuel ih =>
    intro listed listed0 a B ρ w t hf hfr h
    refine ⟨fun h0 => ?_, fun i hi => ?_⟩
    · have hr0 : Region.ready md l.toArray listed0 = [] := by
        apply List.eq_nil_iff_forall_not_mem.2
        intro j hj
        obtain ⟨j0, o, ho, hall⟩ := mem_ready.1 hj
        have hjl : j < l.length := by have := (Array.getElem?_eq_some_iff.1 ho).1; simpa using this
        have : j ∈ Region.ready md (l ++ [st]).toArray listed := by
          rw [mem_ready]
          have ho2 : (l ++ [st])[j]? = some o := by rw [List.getElem?_append_left hjl]; simpa using ho
          refine ⟨by rw [t.same j hjl]; exact j0, o, by simpa using ho2, fun e he hb => ?_⟩
          have h2 := usedB_back hU ho2 e he
          have h3 := hall e he hb
          rw [← getD_tf (by rw [t.s]; omega), t.same e.on (by omega), getD_tf (by rw [t.s0]; omega)]
          exact h3
        rw [h0] at this; cases this
      have := t.ready_last hU (t.all hU hr0); rw [h0] at this; cases this
    · by_cases hil : i < l.length
      · have hi0 := t.ready hU hil hi
        have h1 := h.2 i hi0
        have t' := t.step hU hil hi
        obtain ⟨hun, o, ho, _⟩ := mem_ready.1 hi0
        have ho2 : (l ++ [st]).toArray[i]? = some o := by
          have : (l ++ [st])[i]? = some o := by rw [List.getElem?_append_left hil]; simpa using ho
          simpa using this
        unfold kOp at h1
        simp only [ho] at h1
        obtain ⟨x, hp, hy, hK⟩ := h1
        have hfr' := hfr.put hun o.dst x
        unfold wpOp
        simp only [ho2, yielded_last hd]
        cases x with
        | val v =>
          simp only [YieldsK] at hy
          rcases hy with hy | ⟨hw, rfl⟩
          · obtain ⟨hw, hr⟩ := hy ρ
            simp only [hw, if_true]
            refine .inl ?_
            have h3 := hr w hf.below
            unfold Oper.wp
            generalize (execOp (a ρ).eval o).run P w = r at *
            cases r with
            | ok n w' =>
              cases n <;> simp only [keptUpon] at h3 <;> simp only [Oper.upon]
              case value u =>
                obtain ⟨e1, e2⟩ := h3
                rw [e1, e2]
                exact ih _ _ _ B ρ w t' hf hfr' hK
              case skip =>
                obtain ⟨e1, e2⟩ := h3
                rw [e1, ← e2]
                exact ih _ _ _ B ρ w t' hf hfr' hK
              case enter f args =>
                obtain ⟨e1, hc⟩ := h3
                rw [e1]
                exact hc.mono fun e w'' ⟨he, hw''⟩ => by subst he; exact ih _ _ _ B ρ w'' t' (hf.go hw'') hfr' hK
            | halt x w' => simp only [keptUpon] at h3
          · simp only [hw ρ, Bool.false_eq_true, if_false]
            exact ih _ _ _ B ρ w t' hf hfr' hK
        | box mk ob =>
          simp only [YieldsK] at hy
          obtain ⟨hw, hr⟩ := hy ρ
          simp only [hw, if_true]
          refine .inl ?_
          unfold Oper.wp
          rw [hr w hf.below]
          simp only [Oper.upon]
          have h5 := ih _ _ _ _ (upd ρ i w.heap.size) (w.alloc ob) t' (hf.alloc i mk ob) hfr' hK
          have e1 : (a (upd ρ i w.heap.size)).put o.dst ((Out.box mk ob).at i (upd ρ i w.heap.size)) = (a ρ).put o.dst (mk w.heap.size) := by
            show (a (upd ρ i w.heap.size)).put o.dst (mk (upd ρ i w.heap.size i)) = _
            rw [hfr i ρ _ hun]
            have : upd ρ i w.heap.size i = w.heap.size := if_pos rfl
            rw [this]
          rwa [e1] at h5
        | put k ob0 ob =>
          obtain ⟨hw, hr⟩ := hy.2 ρ
          simp only [hw, if_true]
          refine .inl ?_
          obtain ⟨w', hr1, hr2⟩ := hr w hf.below (hf.box k _ _ hp).2
          unfold Oper.wp
          rw [hr1]
          simp only [Oper.upon]
          exact ih _ _ _ _ ρ w' t' (hf.turn (i := i) hp hr2) hfr' hK
      · have hi2 : i = l.length := by
          obtain ⟨o, ho, _⟩ := (mem_ready.1 hi).2
          have := (Array.getElem?_eq_some_iff.1 ho).1; simp at this; omega
        subst hi2
        have hall := t.of_last hU hi
        have hr0 : Region.ready md l.toArray listed0 = [] := by
          apply List.eq_nil_iff_forall_not_mem.2
          intro j hj
          obtain ⟨j0, o, ho, _⟩ := mem_ready.1 hj
          have hjl : j < l.length := by have := (Array.getElem?_eq_some_iff.1 ho).1; simpa using this
          rw [hall j hjl] at j0; cases j0
        obtain ⟨w'', hr, hq⟩ := hQ _ _ _ _ hf (h.1 hr0)
        have hnone : Region.ready md (l ++ [st]).toArray (listed.setIfInBounds l.length true) = [] := by
          apply List.eq_nil_iff_forall_not_mem.2
          intro j hj
          have hj0 := (mem_ready.1 hj).1
          by_cases hjl : j = l.length
          · subst hjl; simp [t.s] at hj0
          · have hlt : j < l.length := by
              obtain ⟨o, ho, _⟩ := (mem_ready.1 hj).2
              have := (Array.getElem?_eq_some_iff.1 ho).1; simp at this; omega
            rw [getD_set_ne true (by omega), t.same j hlt, hall j hlt] at hj0; cases hj0
        unfold wpOp
        simp only [List.getElem?_toArray, List.getElem?_append_right (Nat.le_refl _), Nat.sub_self, List.getElem?_cons_zero]
        have hw : Region.wanted st (yielded (l ++ [st]).toArray (a ρ).tmps) = true := by unfold Region.wanted; rw [hg]
        simp only [hw, if_true]
        refine .inl ?_
        unfold Oper.wp
        rw [hr]
        simp only [Oper.upon, hd]
        exact ⟨fun _ => hq, fun j hj => by rw [hnone] at hj; cases hj⟩
/-- the region's last operation is a store that waits for all others -/
theorem wp_region_last {id : Nat} {Q : Exit → Act → World → Prop} {a : Act} {w : World} {l : List Oper} {st : Oper} (hm : P.follows .mixedOrders = true) (hB : Region.lexB .any l.toArray = true) (hU : usedB .any l st = true) (hd : st.dst = none) (hg : st.guard = none)
    (h : wpKept P l.toArray (fun w' => Below w.heap.size w w') (fun a' B => ∀ ρ w', Fits w ρ B w' → ∃ w'', (execOp (a' ρ).eval st).run P w' = .ok .skip w'' ∧ Q .normal (a' ρ) w'') l 0 (fun _ => a) (fun _ => none)) : (Code.region id (l ++ [st]).toArray true).wp P Q a w := by
  simp only [Region.lexB, Bool.and_eq_true] at hB
  refine wp_region_any hm ?_
  have hf : Fits w (fun _ => 0) (fun _ => none) { w with drawn := w.drawn + 1 } :=
    ⟨⟨rfl, rfl, rfl, Nat.le_refl _, fun _ _ => rfl⟩, fun _ _ _ h => (by cases h), fun _ _ h => absurd rfl h⟩
  have h1 := wpAnyK_lex (C := fun w' => Below w.heap.size w w') (md := .any) hB.1 l 0 (Array.replicate l.toArray.size false) (fun _ => a) (fun _ => none) (by simp) (by simpa using hB.2) h
  have t : Tw l st .any (Array.replicate (l ++ [st]).toArray.size false) (Array.replicate l.toArray.size false) := by
    refine ⟨by simp, by simp, fun j hj => ?_, ?_, fun j o hj hl => ?_⟩
    · simp [hj, Nat.lt_succ_of_lt hj]
    · simp
    · simp [Nat.lt_succ_of_lt hj] at hl
  have h2 := wpAny_of_last (P := P) (md := .any) hU hd hg (Q' := Q) (fun a' B ρ w' hf' h' => h' ρ w' hf') l.length _ _ (fun _ => a) (fun _ => none) (fun _ => 0) _ t hf (fun _ _ _ _ => rfl) h1
  simpa using h2
/-- the same over the region's list as it stands -/
theorem wp_region_lastD {id : Nat} {Q : Exit → Act → World → Prop} {a : Act} {w : World} {L : List Oper} (hne : L ≠ []) (hm : P.follows .mixedOrders = true) (hB : Region.lexB .any L.dropLast.toArray = true) (hU : usedB .any L.dropLast (L.getLast hne) = true) (hd : (L.getLast hne).dst = none) (hg : (L.getLast hne).guard = none)
    (h : wpKept P L.dropLast.toArray (fun w' => Below w.heap.size w w') (fun a' B => ∀ ρ w', Fits w ρ B w' → ∃ w'', (execOp (a' ρ).eval (L.getLast hne)).run P w' = .ok .skip w'' ∧ Q .normal (a' ρ) w'') L.dropLast 0 (fun _ => a) (fun _ => none)) : (Code.region id L.toArray true).wp P Q a w := by
  have := wp_region_last (id := id) hm hB hU hd hg h
  rwa [List.dropLast_concat_getLast] at this
/-- the end of the walk: the store of two cells into the block b, which lay there -/
theorem last_put2 {st : Oper} {w : World} {Q : Exit → Act → World → Prop} {ops : Array Oper} {C : World → Prop} {i : Nat} {a : St} {B : Bx} (b : Nat) (u v x y : Value) (hb : FBox w b u v)
    (h : ∀ ρ w', w'.cell? ⟨b, 0, none⟩ = some u → w'.cell? ⟨b, 1, none⟩ = some v → w'.frozen? ⟨b, 0, none⟩ = false → w'.frozen? ⟨b, 1, none⟩ = false → (execOp (a ρ).eval st).run P w' = .ok .skip ((w'.setCell ⟨b, 0, none⟩ x).setCell ⟨b, 1, none⟩ y))
    (hn : ∀ ρ w', Fits w ρ B w' → FBox w' b u v → Q .normal (a ρ) ((w'.setCell ⟨b, 0, none⟩ x).setCell ⟨b, 1, none⟩ y)) :
    wpKept P ops C (fun a' B => ∀ ρ w', Fits w ρ B w' → ∃ w'', (execOp (a' ρ).eval st).run P w' = .ok .skip w'' ∧ Q .normal (a' ρ) w'') [] i a B := by
  intro ρ w' hF
  have hb2 := hb.below hF.below
  exact ⟨_, h ρ w' hb2.c0 hb2.c1 hb2.f0 hb2.f1, hn ρ w' hF hb2⟩
end
end Go.Proofs.YtmjglcgdcclinaaGreatDoor
