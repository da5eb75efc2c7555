/- A drawn region that stores into blocks which lay ahead of it: a set of blocks may turn, all others stay. -/
import Derived.Test.YtmjglcgdcclinaaGreatDoorBh
namespace Go.Proofs.YtmjglcgdcclinaaGreatDoor
open Go.RowKit
section
variable {P : Program} {ops : Array Oper} {md : Region.Mode}
structure BelowX (X : Nat → Prop) (w w' : World) : Prop where
  os : w'.os = w.os
  tape : w'.tape = w.tape
  output : w'.output = w.output
  size : w.heap.size ≤ w'.heap.size
  block : ∀ k, k < w.heap.size → ¬ X k → w'.heap[k]? = w.heap[k]?
structure FitsX (X : Nat → Prop) (w0 : World) (ρ : Nat → Nat) (B : Bx) (w : World) : Prop where
  below : BelowX X w0 w
  box : ∀ i s ob, B i = some (s, ob) → (w0.heap.size ≤ ρ i ∨ X (ρ i)) ∧ w.heap[ρ i]? = some ob
  ne : ∀ i j, B i ≠ none → B j ≠ none → ρ i = ρ j → i = j
variable {X : Nat → Prop}
theorem BelowX.lower {w0 w w' : World} (h : BelowX X w w') (hb : Below w0.heap.size w0 w) (hX : ∀ k, X k → w0.heap.size ≤ k) : Below w0.heap.size w0 w' :=
  ⟨h.os.trans hb.os, h.tape.trans hb.tape, h.output.trans hb.output, Nat.le_trans hb.size h.size, fun k hk => (h.block k (Nat.lt_of_lt_of_le hk hb.size) (fun hx => by have := hX k hx; omega)).trans (hb.block k hk)⟩
theorem FitsX.go {w0 w w' : World} {ρ : Nat → Nat} {B : Bx} (h : FitsX X w0 ρ B w) (hb : Below w.heap.size w w') : FitsX X w0 ρ B w' := by
  refine ⟨⟨hb.os.trans h.below.os, hb.tape.trans h.below.tape, hb.output.trans h.below.output, Nat.le_trans h.below.size hb.size, fun k hk hx => (hb.block k (Nat.lt_of_lt_of_le hk h.below.size)).trans (h.below.block k hk hx)⟩, fun i s ob hi => ?_, h.ne⟩
  obtain ⟨h1, h2⟩ := h.box i s ob hi
  exact ⟨h1, (hb.block _ (Array.getElem?_eq_some_iff.1 h2).1).trans h2⟩
theorem FitsX.alloc {w0 w : World} {ρ : Nat → Nat} {B : Bx} (h : FitsX X w0 ρ B w) (i : Nat) (mk : Nat → Value) (ob : Obj) :
    FitsX X w0 (upd ρ i w.heap.size) ((Out.box mk ob).bx i B) (w.alloc ob) := by
  have hlt : ∀ k, B k ≠ none → ρ k < w.heap.size := fun k hk => by
    cases hB : B k with
    | none => exact absurd hB hk
    | some o => exact (Array.getElem?_eq_some_iff.1 (h.box k o.1 o.2 hB).2).1
  refine ⟨⟨h.below.os, h.below.tape, h.below.output, by rw [World.size_alloc]; have := h.below.size; omega, fun k hk hx => (Below.heap_alloc w ob k (by have := h.below.size; omega)).trans (h.below.block k hk hx)⟩, fun k s o hk => ?_, fun k l hk hl he => ?_⟩
  · simp only [Out.bx, upd] at *
    by_cases hki : k = i
    · rw [if_pos hki] at hk ⊢
      simp only [Option.some.injEq, Prod.mk.injEq] at hk
      obtain ⟨-, rfl⟩ := hk
      exact ⟨.inl h.below.size, by show (w.heap.push ob)[w.heap.size]? = _; simp⟩
    · rw [if_neg hki] at hk ⊢
      obtain ⟨h1, h2⟩ := h.box k s o hk
      exact ⟨h1, (Below.heap_alloc w ob _ (hlt k (by rw [hk]; simp))).trans h2⟩
  · simp only [Out.bx, upd] at *
    by_cases hki : k = i <;> by_cases hli : l = i
    · rw [hki, hli]
    · rw [if_pos hki, if_neg hli] at he
      rw [if_neg hli] at hl
      have := hlt l hl; omega
    · rw [if_neg hki, if_pos hli] at he
      rw [if_neg hki] at hk
      have := hlt k hk; omega
    · rw [if_neg hki, if_neg hli] at he
      rw [if_neg hki] at hk
      rw [if_neg hli] at hl
      exact h.ne k l hk hl he
theorem FitsX.turn {w0 w w' : World} {ρ : Nat → Nat} {B : Bx} (h : FitsX X w0 ρ B w) {i k : Nat} {ob0 ob : Obj} (hB : B k = some (false, ob0)) (ht : Turned w w' (ρ k) ob) :
    FitsX X w0 ρ ((Out.put k ob0 ob).bx i B) w' := by
  have hk := (h.box k _ _ hB).1
  refine ⟨⟨ht.os.trans h.below.os, ht.tape.trans h.below.tape, ht.output.trans h.below.output, by rw [ht.size]; exact h.below.size, fun b hb hx => (ht.old b (fun e => by subst e; rcases hk with hk | hk; · omega
                                                                                                                                                                          · exact hx hk)).trans (h.below.block b hb hx)⟩, fun l s o hl => ?_, fun l m hl hm he => ?_⟩
  · simp only [Out.bx] at hl
    by_cases hlk : l = k
    · rw [if_pos hlk] at hl
      simp only [Option.some.injEq, Prod.mk.injEq] at hl
      obtain ⟨-, rfl⟩ := hl
      rw [hlk]
      exact ⟨hk, ht.new⟩
    · rw [if_neg hlk] at hl
      obtain ⟨h1, h2⟩ := h.box l s o hl
      exact ⟨h1, (ht.old _ (fun e => hlk (h.ne l k (by rw [hl]; simp) (by rw [hB]; simp) e))).trans h2⟩
  · have hf : ∀ l, (Out.put k ob0 ob).bx i B l ≠ none → B l ≠ none := fun l hl => by
      simp only [Out.bx] at hl
      by_cases hlk : l = k
      · rw [hlk, hB]; simp
      · rwa [if_neg hlk] at hl
    exact h.ne l m (hf l hl) (hf m hm) he
theorem wpAny_of_keptX {w0 : World} {Q : St → Bx → Prop} {Q' : Exit → Act → World → Prop} (hQ : ∀ a B ρ w, FitsX X w0 ρ B w → Q a B → Q' .normal (a ρ) w) :
    ∀ (fuel : Nat) (listed : Array Bool) (a : St) (B : Bx) (ρ : Nat → Nat) (w : World), FitsX X w0 ρ B w → FreeOf listed a →
    wpAnyK P md ops (BelowX X w0) Q fuel listed a B → wpAny P md ops Q' fuel listed (a ρ) w
  | 0, _, _, _, _, _, hf, _, h => ⟨h.1, hQ _ _ _ _ hf h.2⟩
  | fuel + 1, listed, a, B, ρ, w, hf, hfr, h => by
    refine ⟨fun h0 => hQ _ _ _ _ hf (h.1 h0), fun i hi => ?_⟩
    have h1 := h.2 i hi
    obtain ⟨hun, o, ho, _⟩ := mem_ready.1 hi
    unfold kOp at h1
    simp only [ho] at h1
    obtain ⟨x, hp, hy, hK⟩ := h1
    have hfr' := hfr.put hun o.dst x
    unfold wpOp
    simp only [ho]
    cases x with
    | val v =>
      simp only [YieldsK] at hy
      rcases hy with hy | ⟨hw, rfl⟩
      · obtain ⟨hw, hr⟩ := hy ρ
        simp only [hw, if_true]
        refine .inl ?_
        have h3 := hr w hf.below
        unfold Oper.wp
        generalize (execOp (a ρ).eval o).run P w = r at *
        cases r with
        | ok n w' =>
          cases n <;> simp only [keptUpon] at h3 <;> simp only [Oper.upon]
          case value u =>
            obtain ⟨e1, e2⟩ := h3
            rw [e1, e2]
            exact wpAny_of_keptX hQ fuel _ _ B ρ w hf hfr' hK
          case skip =>
            obtain ⟨e1, e2⟩ := h3
            rw [e1, ← e2]
            exact wpAny_of_keptX hQ fuel _ _ B ρ w hf hfr' hK
          case enter f args =>
            obtain ⟨e1, hc⟩ := h3
            rw [e1]
            exact hc.mono fun e w'' ⟨he, hw''⟩ => by subst he; exact wpAny_of_keptX hQ fuel _ _ B ρ w'' (hf.go hw'') hfr' hK
        | halt x w' => simp only [keptUpon] at h3
      · simp only [hw ρ, Bool.false_eq_true, if_false]
        exact wpAny_of_keptX hQ fuel _ _ B ρ w hf hfr' hK
    | box mk ob =>
      simp only [YieldsK] at hy
      obtain ⟨hw, hr⟩ := hy ρ
      simp only [hw, if_true]
      refine .inl ?_
      unfold Oper.wp
      rw [hr w hf.below]
      simp only [Oper.upon]
      have h5 := wpAny_of_keptX hQ fuel _ _ _ (upd ρ i w.heap.size) (w.alloc ob) (hf.alloc i mk ob) hfr' hK
      have e1 : (a (upd ρ i w.heap.size)).put o.dst ((Out.box mk ob).at i (upd ρ i w.heap.size)) = (a ρ).put o.dst (mk w.heap.size) := by
        show (a (upd ρ i w.heap.size)).put o.dst (mk (upd ρ i w.heap.size i)) = _
        rw [hfr i ρ _ hun]
        have : upd ρ i w.heap.size i = w.heap.size := if_pos rfl
        rw [this]
      rwa [e1] at h5
    | put k ob0 ob =>
      obtain ⟨hw, hr⟩ := hy.2 ρ
      simp only [hw, if_true]
      refine .inl ?_
      obtain ⟨w', hr1, hr2⟩ := hr w hf.below (hf.box k _ _ hp).2
      unfold Oper.wp
      rw [hr1]
      simp only [Oper.upon]
      exact wpAny_of_keptX hQ fuel _ _ _ ρ w' (hf.turn (i := i) hp hr2) hfr' hK
theorem kept_endX {Q : Exit → Act → World → Prop} {C : World → Prop} {i : Nat} {a : St} {B : Bx} {w : World} (h : ∀ ρ w', FitsX X w ρ B w' → Q .normal (a ρ) w') : wpKept P ops C (fun a' B => ∀ ρ w', FitsX X w ρ B w' → Q .normal (a' ρ) w') [] i a B := h
/-- two blocks that lay ahead of the region, whose numbers stand in two slots, may be stored into -/
theorem wp_region_kept_two {id : Nat} {Q : Exit → Act → World → Prop} {a : Act} {w : World} {l : List Oper} (K b1 b2 : Nat) (s1 s2 : Tmp) (ob1 ob2 : Obj) (hm : P.follows .mixedOrders = true) (hB : Region.lexB .any l.toArray = true)
    (hK : l.length ≤ K) (hne : b1 ≠ b2) (h1 : w.heap[b1]? = some ob1) (h2 : w.heap[b2]? = some ob2)
    (ha : (a.put (some s1) (.pointer (some ⟨b1, 0, none⟩))).put (some s2) (.pointer (some ⟨b2, 0, none⟩)) = a)
    (h : wpKept P l.toArray (BelowX (fun k => k = b1 ∨ k = b2) w) (fun a' B => ∀ ρ w', FitsX (fun k => k = b1 ∨ k = b2) w ρ B w' → Q .normal (a' ρ) w') l 0 (fun ρ => (a.put (some s1) (.pointer (some ⟨ρ K, 0, none⟩))).put (some s2) (.pointer (some ⟨ρ (K + 1), 0, none⟩))) (fun k => if k = K then some (false, ob1) else if k = K + 1 then some (false, ob2) else none)) : (Code.region id l.toArray true).wp P Q a w := by
  simp only [Region.lexB, Bool.and_eq_true] at hB
  refine wp_region_any hm ?_
  have hf : FitsX (fun k => k = b1 ∨ k = b2) w (fun k => if k = K then b1 else b2) (fun k => if k = K then some (false, ob1) else if k = K + 1 then some (false, ob2) else none) { w with drawn := w.drawn + 1 } := by
    refine ⟨⟨rfl, rfl, rfl, Nat.le_refl _, fun _ _ _ => rfl⟩, ?_, ?_⟩
    · intro k s' o' hk
      by_cases hkK : k = K
      · rw [if_pos hkK] at hk
        simp only [Option.some.injEq, Prod.mk.injEq] at hk
        simp only [if_pos hkK]
        exact ⟨by simp, by rw [← hk.2]; exact h1⟩
      · rw [if_neg hkK] at hk
        by_cases hkL : k = K + 1
        · rw [if_pos hkL] at hk
          simp only [Option.some.injEq, Prod.mk.injEq] at hk
          simp only [if_neg hkK]
          exact ⟨by simp, by rw [← hk.2]; exact h2⟩
        · rw [if_neg hkL] at hk; cases hk
    · intro k j hk hj he
      have hc : ∀ k, (if k = K then some (false, ob1) else if k = K + 1 then some (false, ob2) else none) ≠ none → k = K ∨ k = K + 1 := fun k hk => by
        by_cases g1 : k = K
        · exact .inl g1
        · by_cases g2 : k = K + 1
          · exact .inr g2
          · rw [if_neg g1, if_neg g2] at hk; exact absurd rfl hk
      rcases hc k hk with rfl | rfl <;> rcases hc j hj with rfl | rfl
      · rfl
      · simp only [if_true] at he; rw [if_neg (by omega)] at he; exact absurd he hne
      · simp only [if_true] at he; rw [if_neg (by omega)] at he; exact absurd he.symm hne
      · rfl
  have hfr : FreeOf (Array.replicate l.toArray.size false) (fun ρ => (a.put (some s1) (.pointer (some ⟨ρ K, 0, none⟩))).put (some s2) (.pointer (some ⟨ρ (K + 1), 0, none⟩))) := by
    intro i ρ c hi
    have hlt : i < l.length := by
      rcases Nat.lt_or_ge i l.length with h' | h'
      · exact h'
      · rw [Array.getD_eq_getD_getElem?, Array.getElem?_eq_none (by simpa using h')] at hi; cases hi
    have e : upd ρ i c K = ρ K := if_neg (by omega)
    have e' : upd ρ i c (K + 1) = ρ (K + 1) := if_neg (by omega)
    simp only [e, e']
  have := wpAnyK_lex (C := BelowX (fun k => k = b1 ∨ k = b2) w) (md := .any) hB.1 l 0 (Array.replicate l.toArray.size false) _ _ (by simp) (by simpa using hB.2) h
  have h3 := wpAny_of_keptX (Q := fun a' B => ∀ ρ w', FitsX (fun k => k = b1 ∨ k = b2) w ρ B w' → Q .normal (a' ρ) w') (fun a' B ρ w' hf' h' => h' ρ w' hf') _ _ _ _ _ _ hf hfr this
  simp only [if_true] at h3
  rw [if_neg (by omega)] at h3
  rw [ha] at h3
  simpa using h3
theorem Blk.keepX {w w' : World} {b : Nat} {cs : Array Value} (h : Blk w b cs) (hb : BelowX X w w') (hx : ¬ X b) : Blk w' b cs := by
  have hl := h.lt
  obtain ⟨t, h⟩ := h
  exact ⟨t, (hb.block b hl hx).trans h⟩
end
end Go.Proofs.YtmjglcgdcclinaaGreatDoor
