/- A drawn region whose operations may yield fresh things (a new block, a call's new slice): the walk in the order of the text. -/
import Derived.Test.YtmjglcgdcclinaaGreatDoorBp
namespace Go.Proofs.YtmjglcgdcclinaaGreatDoor
open Go.RowKit
/-- the frame, as a function of what the operations with fresh results yield -/
abbrev SV := (Nat → Value) → Act
/-- what is known of a fresh result, in each world -/
abbrev BV := Nat → Option (World → Value → Prop)
inductive OutV where
  | val (v : Value)
  | new (R : World → Value → Prop)
def OutV.at (i : Nat) (ρ : Nat → Value) : OutV → Value
  | .val v => v
  | .new _ => ρ i
def OutV.bx (i : Nat) (B : BV) : OutV → BV
  | .val _ => B
  | .new R => fun k => if k = i then some R else B k
def updV (ρ : Nat → Value) (i : Nat) (v : Value) : Nat → Value := fun k => if k = i then v else ρ k
def valUpon (P : Program) (w : World) (v : Value) : Result Next → Prop
  | .ok (.value u) w' => w' = w ∧ u = v
  | .ok .skip w' => w' = w ∧ v = undef
  | .ok (.enter f args) w' => w' = w ∧ Calls P f args w (fun e w'' => e = .returned v ∧ Below w.heap.size w w'')
  | _ => False
def newUpon (P : Program) (w : World) (R : World → Value → Prop) : Result Next → Prop
  | .ok (.value u) w' => Below w.heap.size w w' ∧ R w' u
  | .ok (.enter f args) w' => w' = w ∧ Calls P f args w (fun e w'' => ∃ u, e = .returned u ∧ Below w.heap.size w w'' ∧ R w'' u)
  | _ => False
section
variable {P : Program} {ops : Array Oper} {md : Region.Mode} {C : World → Prop}
def YieldsV (P : Program) (ops : Array Oper) (C : World → Prop) (o : Oper) (a : SV) : OutV → Prop
  | .val v => (∀ ρ, Region.wanted o (yielded ops (a ρ).tmps) = true ∧ ∀ w, C w → valUpon P w v ((execOp (a ρ).eval o).run P w)) ∨ ((∀ ρ, Region.wanted o (yielded ops (a ρ).tmps) = false) ∧ v = undef)
  | .new R => (∀ w w' u, R w u → Below w.heap.size w w' → R w' u) ∧ ∀ ρ, Region.wanted o (yielded ops (a ρ).tmps) = true ∧ ∀ w, C w → newUpon P w R ((execOp (a ρ).eval o).run P w)
theorem YieldsV.of_same {o : Oper} {x : OutV} {a a' : SV} (hy : YieldsV P ops C o a x) (he : ∀ ρ, execOp (a' ρ).eval o = execOp (a ρ).eval o)
    (hw : ∀ ρ, Region.wanted o (yielded ops (a' ρ).tmps) = Region.wanted o (yielded ops (a ρ).tmps)) : YieldsV P ops C o a' x := by
  cases x <;> simp only [YieldsV, he, hw] at * <;> exact hy
def vOp (P : Program) (ops : Array Oper) (C : World → Prop) (i : Nat) (K : SV → BV → Prop) (a : SV) (B : BV) : Prop :=
  match ops[i]? with
  | none => K a B
  | some o => ∃ x : OutV, YieldsV P ops C o a x ∧ K (fun ρ => (a ρ).put o.dst (x.at i ρ)) (x.bx i B)
theorem vOp_mono {i : Nat} {a : SV} {B : BV} {K K' : SV → BV → Prop} (h : ∀ a B, K a B → K' a B) (hh : vOp P ops C i K a B) : vOp P ops C i K' a B := by
  unfold vOp at *
  split
  · exact h _ _ (by simpa [*] using hh)
  · rename_i o ho
    simp only [ho] at hh
    obtain ⟨x, h1, h2⟩ := hh
    exact ⟨x, h1, h _ _ h2⟩
def wpAnyV (P : Program) (md : Region.Mode) (ops : Array Oper) (C : World → Prop) (Q : SV → BV → Prop) : Nat → Array Bool → SV → BV → Prop
  | 0, listed, a, B => Region.ready md ops listed = [] ∧ Q a B
  | fuel + 1, listed, a, B =>
    (Region.ready md ops listed = [] → Q a B) ∧
    ∀ i ∈ Region.ready md ops listed, vOp P ops C i (wpAnyV P md ops C Q fuel (listed.setIfInBounds i true)) a B
theorem bv_move {i j : Nat} (h : i ≠ j) (x y : OutV) (B : BV) : y.bx j (x.bx i B) = x.bx i (y.bx j B) := by
  cases x <;> cases y <;> try rfl
  funext k
  simp only [OutV.bx]
  by_cases h1 : k = j
  · rw [if_pos h1, if_neg (by omega), if_pos h1]
  · rw [if_neg h1]
    by_cases h2 : k = i
    · rw [if_pos h2, if_pos h2]
    · rw [if_neg h2, if_neg h2, if_neg h1]
theorem vOp_put {i j : Nat} {oi oj : Oper} {x : OutV} (hij : i ≠ j) (hj : ops[j]? = some oj) (hap : oi.apart ops oj = true)
    (hsi : ∀ cs b, oi.op ≠ .select cs b) (hsj : ∀ cs b, oj.op ≠ .select cs b) {K : SV → BV → Prop} {a : SV} {B : BV}
    (hy : YieldsV P ops C oi a x) (h : vOp P ops C j K (fun ρ => (a ρ).put oi.dst (x.at i ρ)) (x.bx i B)) :
    vOp P ops C j (fun a' B' => YieldsV P ops C oi a' x ∧ K (fun ρ => (a' ρ).put oi.dst (x.at i ρ)) (x.bx i B')) a B := by
  obtain ⟨h1, h2, h3⟩ := Oper.apart_spec hap
  unfold vOp at *
  simp only [hj] at *
  obtain ⟨y, hy', hK⟩ := h
  refine ⟨y, hy'.of_same (fun ρ => (execOp_put oj hsj (a ρ) oi.dst _ h1).symm) (fun ρ => (wanted_put oj (a ρ) oi.dst _ h1).symm),
    hy.of_same (fun ρ => execOp_put oi hsi (a ρ) oj.dst _ h3) (fun ρ => wanted_put oi (a ρ) oj.dst _ h3), ?_⟩
  have e1 : (fun ρ => ((a ρ).put oj.dst (y.at j ρ)).put oi.dst (x.at i ρ)) = fun ρ => ((a ρ).put oi.dst (x.at i ρ)).put oj.dst (y.at j ρ) := by
    funext ρ; exact (Act.put_comm (a ρ) _ _ h2).symm
  rw [e1, ← bv_move hij]
  exact hK
theorem wpAnyV_first {Q : SV → BV → Prop} {i : Nat} {oi : Oper} {x : OutV} (hi : ops[i]? = some oi) (hsel : ∀ (j : Nat) (o : Oper) cs b, ops[j]? = some o → o.op ≠ .select cs b) :
    ∀ (fuel : Nat) (listed : Array Bool) (a : SV) (B : BV),
      (∀ j oj, ops[j]? = some oj → j ≠ i → listed.getD j true = false → (∀ e ∈ oj.after, Region.binds md e = true → e.on ≠ i) → oi.apart ops oj = true) →
      i ∈ Region.ready md ops listed → YieldsV P ops C oi a x →
      wpAnyV P md ops C Q fuel (listed.setIfInBounds i true) (fun ρ => (a ρ).put oi.dst (x.at i ρ)) (x.bx i B) → wpAnyV P md ops C Q (fuel + 1) listed a B := by
  intro fuel
  induction fuel with
  | zero =>
    intro listed a B _ hr hy H
    refine ⟨fun h => (by rw [h] at hr; cases hr), fun j hj => ?_⟩
    by_cases hji : j = i
    · subst hji; unfold vOp; simp only [hi]; exact ⟨x, hy, H⟩
    · have := ready_mono hj hji
      rw [H.1] at this
      cases this
  | succ fuel ih =>
    intro listed a B hfree hr hy H
    refine ⟨fun h => (by rw [h] at hr; cases hr), fun j hj => ?_⟩
    by_cases hji : j = i
    · subst hji; unfold vOp; simp only [hi]; exact ⟨x, hy, H⟩
    · have h1 := H.2 j (ready_mono hj hji)
      obtain ⟨hjun, oj, hoj, hall⟩ := mem_ready.1 hj
      have hnot : ∀ e ∈ oj.after, Region.binds md e = true → e.on ≠ i := fun e he hb heq => by
        have h1 := hall e he hb
        have h0 := (mem_ready.1 hr).1
        rw [heq] at h1
        rcases Nat.lt_or_ge i listed.size with h' | h'
        · simp [h'] at h0 h1; rw [h0] at h1; cases h1
        · simp [Array.getElem?_eq_none h'] at h1
      have h2 := vOp_put (Ne.symm hji) hoj (hfree j oj hoj hji hjun hnot) (fun cs b => hsel i oi cs b hi) (fun cs b => hsel j oj cs b hoj) hy h1
      have hfree' : ∀ k ok, ops[k]? = some ok → k ≠ i → (listed.setIfInBounds j true).getD k true = false →
          (∀ e ∈ ok.after, Region.binds md e = true → e.on ≠ i) → oi.apart ops ok = true := fun k ok hk hki hun hno => by
        refine hfree k ok hk hki ?_ hno
        by_cases hjk : j = k
        · subst hjk; exact hjun
        · rw [getD_set_ne true hjk] at hun; exact hun
      refine vOp_mono (fun a' B' h3 => ih (listed.setIfInBounds j true) a' B' hfree' (ready_mono hr (Ne.symm hji)) h3.1 ?_) h2
      rw [Array.setIfInBounds_comm _ _ hji]
      exact h3.2
def wpFresh (P : Program) (ops : Array Oper) (C : World → Prop) (Q : SV → BV → Prop) : List Oper → Nat → SV → BV → Prop
  | [], _, a, B => Q a B
  | o :: rest, i, a, B => ∃ x : OutV, YieldsV P ops C o a x ∧ wpFresh P ops C Q rest (i + 1) (fun ρ => (a ρ).put o.dst (x.at i ρ)) (x.bx i B)
theorem wpAnyV_lex {Q : SV → BV → Prop} (hs : Region.noSelect ops = true) : ∀ (l : List Oper) (k : Nat) (listed : Array Bool) (a : SV) (B : BV), (∀ j, l[j]? = ops[k + j]?) →
    Region.lexFrom md ops l.length k listed = true → wpFresh P ops C Q l k a B → wpAnyV P md ops C Q l.length listed a B
  | [], _, _, _, _, _, hB, h => ⟨by simpa [Region.lexFrom] using hB, h⟩
  | o :: l, k, listed, a, B, hl, hB, h => by
    have h0 : ops[k]? = some o := by simpa using (hl 0).symm
    simp only [List.length_cons, Region.lexFrom, Bool.and_eq_true] at hB
    obtain ⟨⟨hr, hf⟩, hB'⟩ := hB
    obtain ⟨x, hy, hK⟩ := h
    exact wpAnyV_first h0 (Region.noSelect_spec hs) l.length listed a B (Region.free_spec h0 hf) (by simpa using hr) hy
      (wpAnyV_lex hs l (k + 1) _ _ _ (fun j => by have := hl (j + 1); simpa [Nat.add_assoc, Nat.add_comm 1 j] using this) hB' hK)
/-- what is known of the memory behind the region -/
structure FitsV (w0 : World) (ρ : Nat → Value) (B : BV) (w : World) : Prop where
  below : Below w0.heap.size w0 w
  box : ∀ i R, B i = some R → R w (ρ i) ∧ ∀ w w' u, R w u → Below w.heap.size w w' → R w' u
theorem FitsV.go {w0 w w' : World} {ρ : Nat → Value} {B : BV} (h : FitsV w0 ρ B w) (hb : Below w.heap.size w w') : FitsV w0 ρ B w' :=
  ⟨h.below.trans (hb.mono h.below.size), fun i R hi => ⟨(h.box i R hi).2 _ _ _ (h.box i R hi).1 hb, (h.box i R hi).2⟩⟩
theorem FitsV.new {w0 w w' : World} {ρ : Nat → Value} {B : BV} (h : FitsV w0 ρ B w) (hb : Below w.heap.size w w') (i : Nat) {R : World → Value → Prop} {u : Value} (hR : R w' u) (hs : ∀ w w' u, R w u → Below w.heap.size w w' → R w' u) :
    FitsV w0 (updV ρ i u) ((OutV.new R).bx i B) w' := by
  have h' := h.go hb
  refine ⟨h'.below, fun k R' hk => ?_⟩
  simp only [OutV.bx, updV] at *
  by_cases hki : k = i
  · rw [if_pos hki] at hk ⊢
    injection hk with hk
    subst hk
    exact ⟨hR, hs⟩
  · rw [if_neg hki] at hk ⊢
    exact h'.box k R' hk
def FreeV (listed : Array Bool) (a : SV) : Prop := ∀ (i : Nat) (ρ : Nat → Value) (b : Value), listed.getD i true = false → a (updV ρ i b) = a ρ
theorem FreeV.put {listed : Array Bool} {a : SV} (h : FreeV listed a) {i : Nat} (hi : listed.getD i true = false) (d : Option Tmp) (x : OutV) :
    FreeV (listed.setIfInBounds i true) (fun ρ => (a ρ).put d (x.at i ρ)) := by
  intro k ρ b hk
  have hlt : i < listed.size := by
    rcases Nat.lt_or_ge i listed.size with h' | h'
    · exact h'
    · simp [Array.getElem?_eq_none h'] at hi
  have hki : k ≠ i := fun e => by subst e; simp [hlt] at hk
  have hk' : listed.getD k true = false := by rwa [getD_set_ne true (Ne.symm hki)] at hk
  show (a (updV ρ k b)).put d _ = _
  rw [h k ρ b hk']
  cases x with
  | val v => rfl
  | new R =>
    show (a ρ).put d (updV ρ k b i) = (a ρ).put d (ρ i)
    have : updV ρ k b i = ρ i := if_neg (Ne.symm hki)
    rw [this]
theorem wpAny_of_fresh {w0 : World} {Q : SV → BV → Prop} {Q' : Exit → Act → World → Prop} (hQ : ∀ a B ρ w, FitsV w0 ρ B w → Q a B → Q' .normal (a ρ) w) :
    ∀ (fuel : Nat) (listed : Array Bool) (a : SV) (B : BV) (ρ : Nat → Value) (w : World), FitsV w0 ρ B w → FreeV listed a →
    wpAnyV P md ops (fun w => Below w0.heap.size w0 w) Q fuel listed a B → wpAny P md ops Q' fuel listed (a ρ) w
  | 0, _, _, _, _, _, hf, _, h => ⟨h.1, hQ _ _ _ _ hf h.2⟩
  | fuel + 1, listed, a, B, ρ, w, hf, hfr, h => by
    refine ⟨fun h0 => hQ _ _ _ _ hf (h.1 h0), fun i hi => ?_⟩
    have h1 := h.2 i hi
    obtain ⟨hun, o, ho, _⟩ := mem_ready.1 hi
    unfold vOp at h1
    simp only [ho] at h1
    obtain ⟨x, hy, hK⟩ := h1
    have hfr' := hfr.put hun o.dst x
    unfold wpOp
    simp only [ho]
    cases x with
    | val v =>
      simp only [YieldsV] at hy
      rcases hy with hy | ⟨hw, rfl⟩
      · obtain ⟨hw, hr⟩ := hy ρ
        simp only [hw, if_true]
        refine .inl ?_
        have h3 := hr w hf.below
        unfold Oper.wp
        generalize (execOp (a ρ).eval o).run P w = r at *
        cases r with
        | ok n w' =>
          cases n <;> simp only [valUpon] at h3 <;> simp only [Oper.upon]
          case value u =>
            obtain ⟨e1, e2⟩ := h3
            rw [e1, e2]
            exact wpAny_of_fresh hQ fuel _ _ B ρ w hf hfr' hK
          case skip =>
            obtain ⟨e1, e2⟩ := h3
            rw [e1, ← e2]
            exact wpAny_of_fresh hQ fuel _ _ B ρ w hf hfr' hK
          case enter f args =>
            obtain ⟨e1, hc⟩ := h3
            rw [e1]
            exact hc.mono fun e w'' ⟨he, hw''⟩ => by subst he; exact wpAny_of_fresh hQ fuel _ _ B ρ w'' (hf.go hw'') hfr' hK
        | halt x w' => simp only [valUpon] at h3
      · simp only [hw ρ, Bool.false_eq_true, if_false]
        exact wpAny_of_fresh hQ fuel _ _ B ρ w hf hfr' hK
    | new R =>
      simp only [YieldsV] at hy
      obtain ⟨hs, hy⟩ := hy
      obtain ⟨hw, hr⟩ := hy ρ
      simp only [hw, if_true]
      refine .inl ?_
      have h3 := hr w hf.below
      have key : ∀ u w', Below w.heap.size w w' → R w' u → wpAny P md ops Q' fuel (listed.setIfInBounds i true) ((a ρ).put o.dst u) w' := fun u w' hb hR => by
        have h5 := wpAny_of_fresh hQ fuel _ _ _ (updV ρ i u) w' (hf.new hb i hR hs) hfr' hK
        have e1 : (a (updV ρ i u)).put o.dst ((OutV.new R).at i (updV ρ i u)) = (a ρ).put o.dst u := by
          show (a (updV ρ i u)).put o.dst (updV ρ i u i) = _
          rw [hfr i ρ _ hun]
          have : updV ρ i u i = u := if_pos rfl
          rw [this]
        rwa [e1] at h5
      unfold Oper.wp
      generalize (execOp (a ρ).eval o).run P w = r at *
      cases r with
      | ok n w' =>
        cases n <;> simp only [newUpon] at h3 <;> simp only [Oper.upon]
        case value u => exact key u w' h3.1 h3.2
        case enter f args =>
          obtain ⟨e1, hc⟩ := h3
          rw [e1]
          exact hc.mono fun e w'' ⟨u, he, hw'', hR⟩ => by subst he; exact key u w'' hw'' hR
      | halt x w' => simp only [newUpon] at h3
theorem wp_region_fresh2 {id : Nat} {Q : Exit → Act → World → Prop} {a : Act} {w : World} {l : List Oper} {s1 s2 : Oper} (hm : P.follows .mixedOrders = true) (hB : Region.lexB .any l.toArray = true) (hU1 : usedB .any l s1 = true) (hU2 : usedB .any (l ++ [s1]) s2 = true) (hg : (l ++ [s1] ++ [s2]).all (fun o => o.guard.isNone) = true)
    (h : wpFresh P l.toArray (fun w' => Below w.heap.size w w') (fun a' B => ∀ ρ w', FitsV w ρ B w' → wpList P (l ++ [s1] ++ [s2]).toArray Q [s1, s2] (a' ρ) w') l 0 (fun _ => a) (fun _ => none)) : (Code.region id (l ++ [s1] ++ [s2]).toArray true).wp P Q a w := by
  simp only [Region.lexB, Bool.and_eq_true] at hB
  have hgs : ∀ o ∈ l ++ [s1] ++ [s2], o.guard = none := fun o ho => by
    have := (List.all_eq_true.1 hg) o ho
    simpa using this
  refine wp_region_any hm ?_
  have hf : FitsV w (fun _ => undef) (fun _ => none) { w with drawn := w.drawn + 1 } :=
    ⟨⟨rfl, rfl, rfl, Nat.le_refl _, fun _ _ => rfl⟩, fun _ _ h => (by cases h)⟩
  have h1 := wpAnyV_lex (C := fun w' => Below w.heap.size w w') (md := .any) hB.1 l 0 (Array.replicate l.toArray.size false) (fun _ => a) (fun _ => none) (by simp) (by simpa using hB.2) h
  have g1 : s1.guard = none := hgs s1 (by simp)
  have g2 : s2.guard = none := hgs s2 (by simp)
  have h2 := wpAny_of_fresh (P := P) (md := .any) (Q := fun a' B => ∀ ρ w', FitsV w ρ B w' → wpList P (l ++ [s1] ++ [s2]).toArray Q [s1, s2] (a' ρ) w') (Q' := Exit.then (wpList P (l ++ [s1]).toArray (Exit.then (wpList P (l ++ [s1] ++ [s2]).toArray Q [s2]) Q) [s1]) (Exit.then (wpList P (l ++ [s1] ++ [s2]).toArray Q [s2]) Q)) (fun a' B ρ w' hf' h' => by
    have h3 : wpList P (l ++ [s1] ++ [s2]).toArray Q [s1, s2] (a' ρ) w' := h' ρ w' hf'
    show wpList P (l ++ [s1]).toArray _ [s1] (a' ρ) w'
    rw [wpList] at h3 ⊢
    simp only [wanted_free g1, if_true] at h3 ⊢
    rcases h3 with h3 | h3
    · exact .inl (Oper.wp_mono2 (fun a w h => h) (fun _ _ _ h => h) (fun ⟨a, w, h⟩ => ⟨a, w, h⟩) h3)
    · exact .inr ⟨h3.1, (fun ⟨a, w, h⟩ => ⟨a, w, h⟩) h3.2⟩) l.toArray.size _ (fun _ => a) (fun _ => none) (fun _ => undef) _ hf (fun _ _ _ _ => rfl) (by simpa using h1)
  have h3 := wpAny_snoc (P := P) (md := .any) hU1 g1 (fun o ho => hgs o (by simp [ho])) _ _ _ a _ (tw_start l s1) h2
  have h4 := wpAny_snoc (P := P) (md := .any) hU2 g2 (fun o ho => hgs o (List.mem_append_left _ ho)) _ _ _ a _ (tw_start (l ++ [s1]) s2) h3
  simpa using h4
theorem wp_region_fresh2D {id : Nat} {Q : Exit → Act → World → Prop} {a : Act} {w : World} {L : List Oper} (hne : L ≠ []) (hne2 : L.dropLast ≠ []) (hm : P.follows .mixedOrders = true) (hB : Region.lexB .any L.dropLast.dropLast.toArray = true) (hU1 : usedB .any L.dropLast.dropLast (L.dropLast.getLast hne2) = true) (hU2 : usedB .any L.dropLast (L.getLast hne) = true) (hg : L.all (fun o => o.guard.isNone) = true)
    (h : wpFresh P L.dropLast.dropLast.toArray (fun w' => Below w.heap.size w w') (fun a' B => ∀ ρ w', FitsV w ρ B w' → wpList P L.toArray Q [L.dropLast.getLast hne2, L.getLast hne] (a' ρ) w') L.dropLast.dropLast 0 (fun _ => a) (fun _ => none)) : (Code.region id L.toArray true).wp P Q a w := by
  have e1 : L.dropLast.dropLast ++ [L.dropLast.getLast hne2] = L.dropLast := List.dropLast_concat_getLast hne2
  have e2 : L.dropLast ++ [L.getLast hne] = L := List.dropLast_concat_getLast hne
  have := wp_region_fresh2 (P := P) (id := id) (Q := Q) (a := a) (w := w) (l := L.dropLast.dropLast) (s1 := L.dropLast.getLast hne2) (s2 := L.getLast hne) hm hB hU1 (by rw [e1]; exact hU2) (by rw [e1, e2]; exact hg) (by rw [e1, e2]; exact h)
  rwa [e1, e2] at this
/-! The steps. -/
variable {Q : SV → BV → Prop} {o : Oper} {rest : List Oper} {i : Nat} {a : SV} {B : BV}
theorem fresh_val (v : Value) (hw : ∀ ρ, Region.wanted o (yielded ops (a ρ).tmps) = true) (h : ∀ ρ w, C w → (execOp (a ρ).eval o).run P w = .ok (.value v) w)
    (hn : wpFresh P ops C Q rest (i + 1) (fun ρ => (a ρ).put o.dst v) B) : wpFresh P ops C Q (o :: rest) i a B :=
  ⟨.val v, .inl fun ρ => ⟨hw ρ, fun w hc => by rw [h ρ w hc]; exact ⟨rfl, rfl⟩⟩, hn⟩
theorem fresh_call (f : FuncId) (args : Array Value) (v : Value) (hw : ∀ ρ, Region.wanted o (yielded ops (a ρ).tmps) = true) (h : ∀ ρ w, C w → (execOp (a ρ).eval o).run P w = .ok (.enter f args) w)
    (hc : ∀ w, C w → Calls P f args w fun e w' => e = .returned v ∧ Below w.heap.size w w')
    (hn : wpFresh P ops C Q rest (i + 1) (fun ρ => (a ρ).put o.dst v) B) : wpFresh P ops C Q (o :: rest) i a B :=
  ⟨.val v, .inl fun ρ => ⟨hw ρ, fun w hC => by rw [h ρ w hC]; exact ⟨rfl, hc w hC⟩⟩, hn⟩
theorem fresh_new (f : FuncId) (args : Array Value) (R : World → Value → Prop) (hs : ∀ w w' u, R w u → Below w.heap.size w w' → R w' u) (hw : ∀ ρ, Region.wanted o (yielded ops (a ρ).tmps) = true) (h : ∀ ρ w, C w → (execOp (a ρ).eval o).run P w = .ok (.enter f args) w)
    (hc : ∀ w, C w → Calls P f args w fun e w' => ∃ u, e = .returned u ∧ Below w.heap.size w w' ∧ R w' u)
    (hn : wpFresh P ops C Q rest (i + 1) (fun ρ => (a ρ).put o.dst (ρ i)) (fun k => if k = i then some R else B k)) : wpFresh P ops C Q (o :: rest) i a B :=
  ⟨.new R, ⟨hs, fun ρ => ⟨hw ρ, fun w hC => by rw [h ρ w hC]; exact ⟨rfl, hc w hC⟩⟩⟩, hn⟩
theorem fresh_box (mk : Nat → Value) (ob : Obj) (hw : ∀ ρ, Region.wanted o (yielded ops (a ρ).tmps) = true) (h : ∀ ρ w, C w → (execOp (a ρ).eval o).run P w = .ok (.value (mk w.heap.size)) (w.alloc ob)) (w0 : World) (hC : ∀ w, C w → w0.heap.size ≤ w.heap.size)
    (hn : wpFresh P ops C Q rest (i + 1) (fun ρ => (a ρ).put o.dst (ρ i)) (fun k => if k = i then some (fun w u => ∃ b, u = mk b ∧ w0.heap.size ≤ b ∧ w.heap[b]? = some ob) else B k)) : wpFresh P ops C Q (o :: rest) i a B :=
  ⟨.new (fun w u => ∃ b, u = mk b ∧ w0.heap.size ≤ b ∧ w.heap[b]? = some ob), ⟨fun w w' u ⟨b, e, h0, h1⟩ hb => ⟨b, e, h0, (hb.block _ (Array.getElem?_eq_some_iff.1 h1).1).trans h1⟩, fun ρ => ⟨hw ρ, fun w hc => by
    rw [h ρ w hc]
    exact ⟨below_alloc w ob, w.heap.size, rfl, hC w hc, heap_alloc_new w ob⟩⟩⟩, hn⟩
end
end Go.Proofs.YtmjglcgdcclinaaGreatDoor
