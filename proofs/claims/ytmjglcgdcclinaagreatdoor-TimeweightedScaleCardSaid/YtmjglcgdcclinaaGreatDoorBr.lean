/- A drawn region whose last two operations wait for all others: the walk in the order of the text, then the two, one behind the other. -/
import Derived.Test.YtmjglcgdcclinaaGreatDoorBq
namespace Go.Proofs.YtmjglcgdcclinaaGreatDoor
open Go.RowKit
section
variable {P : Program} {md : Region.Mode}
theorem Oper.wp_mono2 {o : Oper} {a : Act} {w : World} {K K' : Act → World → Prop} {Q Q' : Exit → Act → World → Prop} (h : ∀ a w, K a w → K' a w) (hp : ∀ c a w, Q (.panic c) a w → Q' (.panic c) a w) (hl : LetsOut Q → LetsOut Q')
    (hh : o.wp P a w K Q) : o.wp P a w K' Q' := by
  unfold Oper.wp at *
  generalize (execOp a.eval o).run P w = r at *
  cases r with
  | ok n w' =>
    cases n <;> simp only [Oper.upon] at hh ⊢ <;>
      first
        | exact h _ _ hh
        | exact Calls.mono hh (fun e w'' he => by
            cases e <;> first
              | exact h _ _ he
              | exact hp _ _ _ he
              | exact hl he)
        | exact Rows.mono hh (fun _ _ he => h _ _ he)
  | halt x w' =>
    cases x <;> simp only [Oper.upon] at hh ⊢ <;> first
      | exact hp _ _ _ hh
      | exact hh
theorem wanted_free {o : Oper} (h : o.guard = none) (f : Nat → Option Bool) : Region.wanted o f = true := by unfold Region.wanted; rw [h]
theorem wpAny_snoc {L : List Oper} {st : Oper} {Q : Exit → Act → World → Prop} (hU : usedB md L st = true) (hg : st.guard = none) (hgs : ∀ o ∈ L, o.guard = none) :
    ∀ (fuel : Nat) (listed listed0 : Array Bool) (a : Act) (w : World), Tw L st md listed listed0 →
    wpAny P md L.toArray (Exit.then (wpList P (L ++ [st]).toArray Q [st]) Q) fuel listed0 a w → wpAny P md (L ++ [st]).toArray Q (fuel + 1) listed a w := by
  have lo : LetsOut (Exit.then (wpList P (L ++ [st]).toArray Q [st]) Q) → LetsOut Q := fun ⟨a, w, h⟩ => ⟨a, w, h⟩
  have fin : ∀ (fuel : Nat) (listed listed0 : Array Bool) (a : Act) (w : World), Tw L st md listed listed0 → (∀ j, j < L.length → listed0.getD j true = true) → wpList P (L ++ [st]).toArray Q [st] a w →
      wpOp P (L ++ [st]).toArray Q L.length (wpAny P md (L ++ [st]).toArray Q fuel (listed.setIfInBounds L.length true)) a w := by
    intro fuel listed listed0 a w t hall h
    have hnone : Region.ready md (L ++ [st]).toArray (listed.setIfInBounds L.length true) = [] := by
      apply List.eq_nil_iff_forall_not_mem.2
      intro j hj
      have hj0 := (mem_ready.1 hj).1
      by_cases hjl : j = L.length
      · subst hjl; simp [t.s] at hj0
      · have hlt : j < L.length := by
          obtain ⟨o, ho, _⟩ := (mem_ready.1 hj).2
          have := (Array.getElem?_eq_some_iff.1 ho).1; simp at this; omega
        rw [getD_set_ne true (by omega), t.same j hlt, hall j hlt] at hj0; cases hj0
    have hK : ∀ a w, Q .normal a w → wpAny P md (L ++ [st]).toArray Q fuel (listed.setIfInBounds L.length true) a w := by
      intro a w hq
      cases fuel with
      | zero => exact ⟨hnone, hq⟩
      | succ n => exact ⟨fun _ => hq, fun j hj => by rw [hnone] at hj; cases hj⟩
    unfold wpList at h
    unfold wpOp
    simp only [List.getElem?_toArray, List.getElem?_append_right (Nat.le_refl _), Nat.sub_self, List.getElem?_cons_zero]
    simp only [wanted_free hg, if_true] at h ⊢
    rcases h with h | h
    · exact .inl (Oper.wp_mono (fun a w h => hK a w h) h)
    · exact .inr h
  intro fuel
  induction fuel with
  | zero =>
    intro listed listed0 a w t h
    have hall := t.all hU h.1
    refine ⟨fun h0 => ?_, fun i hi => ?_⟩
    · have := t.ready_last hU hall; rw [h0] at this; cases this
    · by_cases hil : i < L.length
      · have := t.ready hU hil hi; rw [h.1] at this; cases this
      · have hi2 : i = L.length := by
          obtain ⟨o, ho, _⟩ := (mem_ready.1 hi).2
          have := (Array.getElem?_eq_some_iff.1 ho).1; simp at this; omega
        subst hi2
        exact fin 0 _ _ _ _ t hall h.2
  | succ fuel ih =>
    intro listed listed0 a w t h
    refine ⟨fun h0 => ?_, fun i hi => ?_⟩
    · have hr0 : Region.ready md L.toArray listed0 = [] := by
        apply List.eq_nil_iff_forall_not_mem.2
        intro j hj
        obtain ⟨j0, o, ho, hall⟩ := mem_ready.1 hj
        have hjl : j < L.length := by have := (Array.getElem?_eq_some_iff.1 ho).1; simpa using this
        have : j ∈ Region.ready md (L ++ [st]).toArray listed := by
          rw [mem_ready]
          have ho2 : (L ++ [st])[j]? = some o := by rw [List.getElem?_append_left hjl]; simpa using ho
          refine ⟨by rw [t.same j hjl]; exact j0, o, by simpa using ho2, fun e he hb => ?_⟩
          have h2 := usedB_back hU ho2 e he
          have h3 := hall e he hb
          rw [← getD_tf (by rw [t.s]; omega), t.same e.on (by omega), getD_tf (by rw [t.s0]; omega)]
          exact h3
        rw [h0] at this; cases this
      have := t.ready_last hU (t.all hU hr0); rw [h0] at this; cases this
    · by_cases hil : i < L.length
      · have hi0 := t.ready hU hil hi
        have h1 := h.2 i hi0
        have t' := t.step hU hil hi
        obtain ⟨hun, o, ho, _⟩ := mem_ready.1 hi0
        have hoL : o ∈ L := by
          have : L[i]? = some o := by simpa using ho
          exact List.mem_of_getElem? this
        have ho2 : (L ++ [st]).toArray[i]? = some o := by
          have : (L ++ [st])[i]? = some o := by rw [List.getElem?_append_left hil]; simpa using ho
          simpa using this
        unfold wpOp at h1 ⊢
        simp only [ho, ho2, wanted_free (hgs o hoL), if_true] at h1 ⊢
        rcases h1 with h1 | h1
        · exact .inl (Oper.wp_mono2 (fun a w h => ih _ _ _ _ t' h) (fun _ _ _ h => h) lo h1)
        · exact .inr ⟨h1.1, lo h1.2⟩
      · have hi2 : i = L.length := by
          obtain ⟨o, ho, _⟩ := (mem_ready.1 hi).2
          have := (Array.getElem?_eq_some_iff.1 ho).1; simp at this; omega
        subst hi2
        have hall := t.of_last hU hi
        have hr0 : Region.ready md L.toArray listed0 = [] := by
          apply List.eq_nil_iff_forall_not_mem.2
          intro j hj
          obtain ⟨j0, o, ho, _⟩ := mem_ready.1 hj
          have hjl : j < L.length := by have := (Array.getElem?_eq_some_iff.1 ho).1; simpa using this
          rw [hall j hjl] at j0; cases j0
        exact fin (fuel + 1) _ _ _ _ t hall (h.1 hr0)
theorem tw_start (L : List Oper) (st : Oper) : Tw L st md (Array.replicate (L ++ [st]).toArray.size false) (Array.replicate L.toArray.size false) := by
  refine ⟨by simp, by simp, fun j hj => ?_, ?_, fun j o hj hl => ?_⟩
  · simp [hj, Nat.lt_succ_of_lt hj]
  · simp
  · simp [Nat.lt_succ_of_lt hj] at hl
/-- the region's last two operations wait for all others -/
theorem wp_region_tail2 {id : Nat} {Q : Exit → Act → World → Prop} {a : Act} {w : World} {l : List Oper} {s1 s2 : Oper} (hm : P.follows .mixedOrders = true) (hB : Region.lexB .any l.toArray = true) (hU1 : usedB .any l s1 = true) (hU2 : usedB .any (l ++ [s1]) s2 = true) (hg : (l ++ [s1] ++ [s2]).all (fun o => o.guard.isNone) = true)
    (h : wpKept P l.toArray (fun w' => Below w.heap.size w w') (fun a' B => ∀ ρ w', Fits w ρ B w' → wpList P (l ++ [s1] ++ [s2]).toArray Q [s1, s2] (a' ρ) w') l 0 (fun _ => a) (fun _ => none)) : (Code.region id (l ++ [s1] ++ [s2]).toArray true).wp P Q a w := by
  simp only [Region.lexB, Bool.and_eq_true] at hB
  have hgs : ∀ o ∈ l ++ [s1] ++ [s2], o.guard = none := fun o ho => by
    have := (List.all_eq_true.1 hg) o ho
    simpa using this
  refine wp_region_any hm ?_
  have hf : Fits w (fun _ => 0) (fun _ => none) { w with drawn := w.drawn + 1 } :=
    ⟨⟨rfl, rfl, rfl, Nat.le_refl _, fun _ _ => rfl⟩, fun _ _ _ h => (by cases h), fun _ _ h => absurd rfl h⟩
  have h1 := wpAnyK_lex (C := fun w' => Below w.heap.size w w') (md := .any) hB.1 l 0 (Array.replicate l.toArray.size false) (fun _ => a) (fun _ => none) (by simp) (by simpa using hB.2) h
  have g1 : s1.guard = none := hgs s1 (by simp)
  have g2 : s2.guard = none := hgs s2 (by simp)
  have h2 := wpAny_of_kept (P := P) (md := .any) (Q := fun a' B => ∀ ρ w', Fits w ρ B w' → wpList P (l ++ [s1] ++ [s2]).toArray Q [s1, s2] (a' ρ) w') (Q' := Exit.then (wpList P (l ++ [s1]).toArray (Exit.then (wpList P (l ++ [s1] ++ [s2]).toArray Q [s2]) Q) [s1]) (Exit.then (wpList P (l ++ [s1] ++ [s2]).toArray Q [s2]) Q)) (fun a' B ρ w' hf' h' => by
    have h3 : wpList P (l ++ [s1] ++ [s2]).toArray Q [s1, s2] (a' ρ) w' := h' ρ w' hf'
    show wpList P (l ++ [s1]).toArray _ [s1] (a' ρ) w'
    rw [wpList] at h3 ⊢
    simp only [wanted_free g1, if_true] at h3 ⊢
    rcases h3 with h3 | h3
    · exact .inl (Oper.wp_mono2 (fun a w h => h) (fun _ _ _ h => h) (fun ⟨a, w, h⟩ => ⟨a, w, h⟩) h3)
    · exact .inr ⟨h3.1, (fun ⟨a, w, h⟩ => ⟨a, w, h⟩) h3.2⟩) l.toArray.size _ (fun _ => a) (fun _ => none) (fun _ => 0) _ hf (fun _ _ _ _ => rfl) (by simpa using h1)
  have h3 := wpAny_snoc (P := P) (md := .any) hU1 g1 (fun o ho => hgs o (by simp [ho])) _ _ _ a _ (tw_start l s1) h2
  have h4 := wpAny_snoc (P := P) (md := .any) hU2 g2 (fun o ho => hgs o (List.mem_append_left _ ho)) _ _ _ a _ (tw_start (l ++ [s1]) s2) h3
  simpa using h4
theorem wp_region_tail2D {id : Nat} {Q : Exit → Act → World → Prop} {a : Act} {w : World} {L : List Oper} (hne : L ≠ []) (hne2 : L.dropLast ≠ []) (hm : P.follows .mixedOrders = true) (hB : Region.lexB .any L.dropLast.dropLast.toArray = true) (hU1 : usedB .any L.dropLast.dropLast (L.dropLast.getLast hne2) = true) (hU2 : usedB .any L.dropLast (L.getLast hne) = true) (hg : L.all (fun o => o.guard.isNone) = true)
    (h : wpKept P L.dropLast.dropLast.toArray (fun w' => Below w.heap.size w w') (fun a' B => ∀ ρ w', Fits w ρ B w' → wpList P L.toArray Q [L.dropLast.getLast hne2, L.getLast hne] (a' ρ) w') L.dropLast.dropLast 0 (fun _ => a) (fun _ => none)) : (Code.region id L.toArray true).wp P Q a w := by
  have e1 : L.dropLast.dropLast ++ [L.dropLast.getLast hne2] = L.dropLast := List.dropLast_concat_getLast hne2
  have e2 : L.dropLast ++ [L.getLast hne] = L := List.dropLast_concat_getLast hne
  have := wp_region_tail2 (P := P) (id := id) (Q := Q) (a := a) (w := w) (l := L.dropLast.dropLast) (s1 := L.dropLast.getLast hne2) (s2 := L.getLast hne) hm hB hU1 (by rw [e1]; exact hU2) (by rw [e1, e2]; exact hg) (by rw [e1, e2]; exact h)
  rwa [e1, e2] at this
end
end Go.Proofs.YtmjglcgdcclinaaGreatDoor
