/- Texts put together: Bk Bq Br Bp Bf Tr Bh Ia Ib. -/
import Derived.Test.YtgnppdkeiihlfaaGreatDoorT1
import Derived.Deep.QuietTactic
import Derived.Below
import Derived.OrdersIn
import Derived.TacticsIn
import Derived.Laws.IdiomStrings
/- A region that draws its order, whose operations load, compute, call what keeps the memory that lay, and make new blocks: one walk in the order of the text serves every order. -/
namespace Go.Proofs.YtgnppdkeiihlfaaGreatDoor
open Go.RowKit

/-- the frame, as a function of the numbers of the new blocks (by operation) -/
abbrev St := (Nat → Nat) → Act
/-- the new blocks: whether a store has gone into it, and what it holds -/
abbrev Bx := Nat → Option (Bool × Obj)
/-- what an operation yields: a value, or a new block and a value that names it -/
inductive Out where
  | val (v : Value)
  | box (mk : Nat → Value) (ob : Obj)
  | put (k : Nat) (ob0 ob : Obj)
def Out.at (i : Nat) (ρ : Nat → Nat) : Out → Value
  | .val v => v
  | .box mk _ => mk (ρ i)
  | .put _ _ _ => undef
def Out.bx (i : Nat) (B : Bx) : Out → Bx
  | .val _ => B
  | .box _ ob => fun k => if k = i then some (false, ob) else B k
  | .put j _ ob => fun k => if k = j then some (true, ob) else B k
def Out.pre (i : Nat) (B : Bx) : Out → Prop
  | .val _ => True
  | .box _ _ => B i = none
  | .put k ob0 _ => B k = some (false, ob0)
/-- one block has turned -/
structure Turned (w w' : World) (b : Nat) (ob : Obj) : Prop where
  os : w'.os = w.os
  tape : w'.tape = w.tape
  output : w'.output = w.output
  size : w'.heap.size = w.heap.size
  new : w'.heap[b]? = some ob
  old : ∀ k, k ≠ b → w'.heap[k]? = w.heap[k]?
def upd (ρ : Nat → Nat) (i b : Nat) : Nat → Nat := fun k => if k = i then b else ρ k

def keptUpon (P : Program) (w : World) (v : Value) : Result Next → Prop
  | .ok (.value u) w' => w' = w ∧ u = v
  | .ok .skip w' => w' = w ∧ v = undef
  | .ok (.enter f args) w' => w' = w ∧ Calls P f args w (fun e w'' => e = .returned v ∧ Below w.heap.size w w'')
  | _ => False

section
variable {P : Program} {ops : Array Oper} {md : Region.Mode} {C : World → Prop}

def YieldsK (P : Program) (ops : Array Oper) (C : World → Prop) (o : Oper) (a : St) : Out → Prop
  | .val v => (∀ ρ, Region.wanted o (yielded ops (a ρ).tmps) = true ∧ ∀ w, C w → keptUpon P w v ((execOp (a ρ).eval o).run P w)) ∨ ((∀ ρ, Region.wanted o (yielded ops (a ρ).tmps) = false) ∧ v = undef)
  | .box mk ob => ∀ ρ, Region.wanted o (yielded ops (a ρ).tmps) = true ∧ ∀ w, C w → (execOp (a ρ).eval o).run P w = .ok (.value (mk w.heap.size)) (w.alloc ob)
  | .put k ob0 ob => (ops[k]? = none ∨ ∃ ok d, ops[k]? = some ok ∧ ok.dst = some d ∧ d ∈ o.looksAt ops) ∧
      ∀ ρ, Region.wanted o (yielded ops (a ρ).tmps) = true ∧ ∀ w, C w → w.heap[ρ k]? = some ob0 → ∃ w', (execOp (a ρ).eval o).run P w = .ok .skip w' ∧ Turned w w' (ρ k) ob

theorem YieldsK.of_same {o : Oper} {x : Out} {a a' : St} (hy : YieldsK P ops C o a x) (he : ∀ ρ, execOp (a' ρ).eval o = execOp (a ρ).eval o)
    (hw : ∀ ρ, Region.wanted o (yielded ops (a' ρ).tmps) = Region.wanted o (yielded ops (a ρ).tmps)) : YieldsK P ops C o a' x := by
  cases x <;> simp only [YieldsK, he, hw] at * <;> exact hy

def kOp (P : Program) (ops : Array Oper) (C : World → Prop) (i : Nat) (K : St → Bx → Prop) (a : St) (B : Bx) : Prop :=
  match ops[i]? with
  | none => K a B
  | some o => ∃ x : Out, x.pre i B ∧ YieldsK P ops C o a x ∧ K (fun ρ => (a ρ).put o.dst (x.at i ρ)) (x.bx i B)

theorem kOp_mono {i : Nat} {a : St} {B : Bx} {K K' : St → Bx → Prop} (h : ∀ a B, K a B → K' a B) (hh : kOp P ops C i K a B) : kOp P ops C i K' a B := by
  unfold kOp at *
  split
  · exact h _ _ (by simpa [*] using hh)
  · rename_i o ho
    simp only [ho] at hh
    obtain ⟨x, h0, h1, h2⟩ := hh
    exact ⟨x, h0, h1, h _ _ h2⟩

def wpAnyK (P : Program) (md : Region.Mode) (ops : Array Oper) (C : World → Prop) (Q : St → Bx → Prop) : Nat → Array Bool → St → Bx → Prop
  | 0, listed, a, B => Region.ready md ops listed = [] ∧ Q a B
  | fuel + 1, listed, a, B =>
    (Region.ready md ops listed = [] → Q a B) ∧
    ∀ i ∈ Region.ready md ops listed, kOp P ops C i (wpAnyK P md ops C Q fuel (listed.setIfInBounds i true)) a B

theorem bx_move {i j : Nat} (h : i ≠ j) (x y : Out) (B : Bx) (hk : ∀ k ob0 ob, y = .put k ob0 ob → k ≠ i) (hx : x.pre i B) (hy : y.pre j (x.bx i B)) :
    y.pre j B ∧ x.pre i (y.bx j B) ∧ y.bx j (x.bx i B) = x.bx i (y.bx j B) := by
  cases x with
  | val v => exact ⟨hy, trivial, rfl⟩
  | box mk ob =>
    cases y with
    | val v => exact ⟨trivial, hx, rfl⟩
    | box mk' ob' =>
      simp only [Out.pre, Out.bx] at *
      rw [if_neg (Ne.symm h)] at hy
      refine ⟨hy, by rw [if_neg h]; exact hx, ?_⟩
      funext k
      by_cases h1 : k = j
      · rw [if_pos h1, if_neg (by omega), if_pos h1]
      · rw [if_neg h1]
        by_cases h2 : k = i
        · rw [if_pos h2, if_pos h2]
        · rw [if_neg h2, if_neg h2, if_neg h1]
    | put k ob0 ob' =>
      have hki := hk k ob0 ob' rfl
      simp only [Out.pre, Out.bx] at *
      rw [if_neg hki] at hy
      refine ⟨hy, by rw [if_neg (Ne.symm hki)]; exact hx, ?_⟩
      funext l
      by_cases h1 : l = k
      · rw [if_pos h1, if_neg (by omega), if_pos h1]
      · rw [if_neg h1]
        by_cases h2 : l = i
        · rw [if_pos h2, if_pos h2]
        · rw [if_neg h2, if_neg h2, if_neg h1]
  | put k ob0 ob =>
    cases y with
    | val v => exact ⟨trivial, hx, rfl⟩
    | box mk' ob' =>
      simp only [Out.pre, Out.bx] at *
      by_cases hjk : j = k
      · rw [if_pos hjk] at hy; cases hy
      · rw [if_neg hjk] at hy
        refine ⟨hy, by rw [if_neg (Ne.symm hjk)]; exact hx, ?_⟩
        funext l
        by_cases h1 : l = k
        · rw [if_neg (by omega), if_pos h1, if_pos h1]
        · rw [if_neg h1, if_neg h1]
    | put k' ob0' ob' =>
      simp only [Out.pre, Out.bx] at *
      by_cases hkk : k' = k
      · rw [if_pos hkk] at hy; simp at hy
      · rw [if_neg hkk] at hy
        refine ⟨hy, by rw [if_neg (Ne.symm hkk)]; exact hx, ?_⟩
        funext l
        by_cases h1 : l = k
        · rw [if_neg (by omega), if_pos h1, if_pos h1]
        · rw [if_neg h1, if_neg h1]

theorem kOp_put {i j : Nat} {oi oj : Oper} {x : Out} (hij : i ≠ j) (hj : ops[j]? = some oj) (hap : oi.apart ops oj = true)
    (hsi : ∀ cs b, oi.op ≠ .select cs b) (hsj : ∀ cs b, oj.op ≠ .select cs b) {K : St → Bx → Prop} {a : St} {B : Bx}
    (hi : ops[i]? = some oi) (hp : x.pre i B) (hy : YieldsK P ops C oi a x) (h : kOp P ops C j K (fun ρ => (a ρ).put oi.dst (x.at i ρ)) (x.bx i B)) :
    kOp P ops C j (fun a' B' => x.pre i B' ∧ YieldsK P ops C oi a' x ∧ K (fun ρ => (a' ρ).put oi.dst (x.at i ρ)) (x.bx i B')) a B := by
  obtain ⟨h1, h2, h3⟩ := Oper.apart_spec hap
  unfold kOp at *
  simp only [hj] at *
  obtain ⟨y, hp', hy', hK⟩ := h
  have hk : ∀ k ob0 ob, y = .put k ob0 ob → k ≠ i := by
    rintro k ob0 ob rfl rfl
    rcases hy'.1 with e1 | ⟨ok, d, e1, e2, e3⟩
    · rw [hi] at e1; cases e1
    rw [hi] at e1
    injection e1 with e1
    subst e1
    exact h1 d e2 e3
  obtain ⟨m1, m2, m3⟩ := bx_move hij x y B hk hp hp'
  refine ⟨y, m1, hy'.of_same (fun ρ => (execOp_put oj hsj (a ρ) oi.dst _ h1).symm) (fun ρ => (wanted_put oj (a ρ) oi.dst _ h1).symm), m2,
    hy.of_same (fun ρ => execOp_put oi hsi (a ρ) oj.dst _ h3) (fun ρ => wanted_put oi (a ρ) oj.dst _ h3), ?_⟩
  have e1 : (fun ρ => ((a ρ).put oj.dst (y.at j ρ)).put oi.dst (x.at i ρ)) = fun ρ => ((a ρ).put oi.dst (x.at i ρ)).put oj.dst (y.at j ρ) := by
    funext ρ; exact (Act.put_comm (a ρ) _ _ h2).symm
  rw [e1, ← m3]
  exact hK

theorem wpAnyK_first {Q : St → Bx → Prop} {i : Nat} {oi : Oper} {x : Out} (hi : ops[i]? = some oi) (hsel : ∀ (j : Nat) (o : Oper) cs b, ops[j]? = some o → o.op ≠ .select cs b) :
    ∀ (fuel : Nat) (listed : Array Bool) (a : St) (B : Bx),
      (∀ j oj, ops[j]? = some oj → j ≠ i → listed.getD j true = false → (∀ e ∈ oj.after, Region.binds md e = true → e.on ≠ i) → oi.apart ops oj = true) →
      i ∈ Region.ready md ops listed → x.pre i B → YieldsK P ops C oi a x →
      wpAnyK P md ops C Q fuel (listed.setIfInBounds i true) (fun ρ => (a ρ).put oi.dst (x.at i ρ)) (x.bx i B) → wpAnyK P md ops C Q (fuel + 1) listed a B := by
  intro fuel
  induction fuel with
  | zero =>
    intro listed a B _ hr hp hy H
    refine ⟨fun h => (by rw [h] at hr; cases hr), fun j hj => ?_⟩
    by_cases hji : j = i
    · subst hji; unfold kOp; simp only [hi]; exact ⟨x, hp, hy, H⟩
    · have := ready_mono hj hji
      rw [H.1] at this
      cases this
  | succ fuel ih =>
    intro listed a B hfree hr hp hy H
    refine ⟨fun h => (by rw [h] at hr; cases hr), fun j hj => ?_⟩
    by_cases hji : j = i
    · subst hji; unfold kOp; simp only [hi]; exact ⟨x, hp, hy, H⟩
    · have h1 := H.2 j (ready_mono hj hji)
      obtain ⟨hjun, oj, hoj, hall⟩ := mem_ready.1 hj
      have hnot : ∀ e ∈ oj.after, Region.binds md e = true → e.on ≠ i := fun e he hb heq => by
        have h1 := hall e he hb
        have h0 := (mem_ready.1 hr).1
        rw [heq] at h1
        rcases Nat.lt_or_ge i listed.size with h' | h'
        · simp [h'] at h0 h1; rw [h0] at h1; cases h1
        · simp [Array.getElem?_eq_none h'] at h1
      have h2 := kOp_put (Ne.symm hji) hoj (hfree j oj hoj hji hjun hnot) (fun cs b => hsel i oi cs b hi) (fun cs b => hsel j oj cs b hoj) hi hp hy h1
      have hfree' : ∀ k ok, ops[k]? = some ok → k ≠ i → (listed.setIfInBounds j true).getD k true = false →
          (∀ e ∈ ok.after, Region.binds md e = true → e.on ≠ i) → oi.apart ops ok = true := fun k ok hk hki hun hno => by
        refine hfree k ok hk hki ?_ hno
        by_cases hjk : j = k
        · subst hjk; exact hjun
        · rw [getD_set_ne true hjk] at hun; exact hun
      refine kOp_mono (fun a' B' h3 => ih (listed.setIfInBounds j true) a' B' hfree' (ready_mono hr (Ne.symm hji)) h3.1 h3.2.1 ?_) h2
      rw [Array.setIfInBounds_comm _ _ hji]
      exact h3.2.2

/-- the walk in the order of the text -/
def wpKept (P : Program) (ops : Array Oper) (C : World → Prop) (Q : St → Bx → Prop) : List Oper → Nat → St → Bx → Prop
  | [], _, a, B => Q a B
  | o :: rest, i, a, B => ∃ x : Out, x.pre i B ∧ YieldsK P ops C o a x ∧ wpKept P ops C Q rest (i + 1) (fun ρ => (a ρ).put o.dst (x.at i ρ)) (x.bx i B)

theorem wpAnyK_lex {Q : St → Bx → Prop} (hs : Region.noSelect ops = true) : ∀ (l : List Oper) (k : Nat) (listed : Array Bool) (a : St) (B : Bx), (∀ j, l[j]? = ops[k + j]?) →
    Region.lexFrom md ops l.length k listed = true → wpKept P ops C Q l k a B → wpAnyK P md ops C Q l.length listed a B
  | [], _, _, _, _, _, hB, h => ⟨by simpa [Region.lexFrom] using hB, h⟩
  | o :: l, k, listed, a, B, hl, hB, h => by
    have h0 : ops[k]? = some o := by simpa using (hl 0).symm
    simp only [List.length_cons, Region.lexFrom, Bool.and_eq_true] at hB
    obtain ⟨⟨hr, hf⟩, hB'⟩ := hB
    obtain ⟨x, hp, hy, hK⟩ := h
    exact wpAnyK_first h0 (Region.noSelect_spec hs) l.length listed a B (Region.free_spec h0 hf) (by simpa using hr) hp hy
      (wpAnyK_lex hs l (k + 1) _ _ _ (fun j => by have := hl (j + 1); simpa [Nat.add_assoc, Nat.add_comm 1 j] using this) hB' hK)

/-- what is known of the memory behind the region -/
structure Fits (w0 : World) (ρ : Nat → Nat) (B : Bx) (w : World) : Prop where
  below : Below w0.heap.size w0 w
  box : ∀ i s ob, B i = some (s, ob) → w0.heap.size ≤ ρ i ∧ w.heap[ρ i]? = some ob
  ne : ∀ i j, B i ≠ none → B j ≠ none → ρ i = ρ j → i = j

theorem Fits.go {w0 w w' : World} {ρ : Nat → Nat} {B : Bx} (h : Fits w0 ρ B w) (hb : Below w.heap.size w w') : Fits w0 ρ B w' := by
  refine ⟨h.below.trans (hb.mono h.below.size), fun i s ob hi => ?_, h.ne⟩
  obtain ⟨h1, h2⟩ := h.box i s ob hi
  exact ⟨h1, (hb.block _ (Array.getElem?_eq_some_iff.1 h2).1).trans h2⟩
theorem Fits.alloc {w0 w : World} {ρ : Nat → Nat} {B : Bx} (h : Fits w0 ρ B w) (i : Nat) (mk : Nat → Value) (ob : Obj) :
    Fits w0 (upd ρ i w.heap.size) ((Out.box mk ob).bx i B) (w.alloc ob) := by
  have hlt : ∀ k, B k ≠ none → ρ k < w.heap.size := fun k hk => by
    cases hB : B k with
    | none => exact absurd hB hk
    | some o => exact (Array.getElem?_eq_some_iff.1 (h.box k o.1 o.2 hB).2).1
  refine ⟨h.below.alloc h.below.size ob, fun k s o hk => ?_, fun k l hk hl he => ?_⟩
  · simp only [Out.bx, upd] at *
    by_cases hki : k = i
    · rw [if_pos hki] at hk ⊢
      simp only [Option.some.injEq, Prod.mk.injEq] at hk
      obtain ⟨-, rfl⟩ := hk
      exact ⟨h.below.size, by show (w.heap.push ob)[w.heap.size]? = _; simp⟩
    · rw [if_neg hki] at hk ⊢
      obtain ⟨h1, h2⟩ := h.box k s o hk
      exact ⟨h1, (Below.heap_alloc w ob _ (hlt k (by rw [hk]; simp))).trans h2⟩
  · simp only [Out.bx, upd] at *
    by_cases hki : k = i <;> by_cases hli : l = i
    · rw [hki, hli]
    · rw [if_pos hki, if_neg hli] at he
      rw [if_neg hli] at hl
      have := hlt l hl; omega
    · rw [if_neg hki, if_pos hli] at he
      rw [if_neg hki] at hk
      have := hlt k hk; omega
    · rw [if_neg hki, if_neg hli] at he
      rw [if_neg hki] at hk
      rw [if_neg hli] at hl
      exact h.ne k l hk hl he

theorem Fits.turn {w0 w w' : World} {ρ : Nat → Nat} {B : Bx} (h : Fits w0 ρ B w) {i k : Nat} {ob0 ob : Obj} (hB : B k = some (false, ob0)) (ht : Turned w w' (ρ k) ob) :
    Fits w0 ρ ((Out.put k ob0 ob).bx i B) w' := by
  have hk := (h.box k _ _ hB).1
  refine ⟨⟨ht.os.trans h.below.os, ht.tape.trans h.below.tape, ht.output.trans h.below.output, by rw [ht.size]; exact h.below.size, fun b hb => (ht.old b (by omega)).trans (h.below.block b hb)⟩, fun l s o hl => ?_, fun l m hl hm he => ?_⟩
  · simp only [Out.bx] at hl
    by_cases hlk : l = k
    · rw [if_pos hlk] at hl
      simp only [Option.some.injEq, Prod.mk.injEq] at hl
      obtain ⟨-, rfl⟩ := hl
      rw [hlk]
      exact ⟨hk, ht.new⟩
    · rw [if_neg hlk] at hl
      obtain ⟨h1, h2⟩ := h.box l s o hl
      exact ⟨h1, (ht.old _ (fun e => hlk (h.ne l k (by rw [hl]; simp) (by rw [hB]; simp) e))).trans h2⟩
  · have hf : ∀ l, (Out.put k ob0 ob).bx i B l ≠ none → B l ≠ none := fun l hl => by
      simp only [Out.bx] at hl
      by_cases hlk : l = k
      · rw [hlk, hB]; simp
      · rwa [if_neg hlk] at hl
    exact h.ne l m (hf l hl) (hf m hm) he

def FreeOf (listed : Array Bool) (a : St) : Prop := ∀ (i : Nat) (ρ : Nat → Nat) (b : Nat), listed.getD i true = false → a (upd ρ i b) = a ρ
theorem FreeOf.put {listed : Array Bool} {a : St} (h : FreeOf listed a) {i : Nat} (hi : listed.getD i true = false) (d : Option Tmp) (x : Out) :
    FreeOf (listed.setIfInBounds i true) (fun ρ => (a ρ).put d (x.at i ρ)) := by
  intro k ρ b hk
  have hlt : i < listed.size := by
    rcases Nat.lt_or_ge i listed.size with h' | h'
    · exact h'
    · simp [Array.getElem?_eq_none h'] at hi
  have hki : k ≠ i := fun e => by subst e; simp [hlt] at hk
  have hk' : listed.getD k true = false := by rwa [getD_set_ne true (Ne.symm hki)] at hk
  show (a (upd ρ k b)).put d _ = _
  rw [h k ρ b hk']
  cases x with
  | val v => rfl
  | box mk ob =>
    show (a ρ).put d (mk (upd ρ k b i)) = (a ρ).put d (mk (ρ i))
    have : upd ρ k b i = ρ i := if_neg (Ne.symm hki)
    rw [this]
  | put k' ob0 ob => rfl

theorem wpAny_of_kept {w0 : World} {Q : St → Bx → Prop} {Q' : Exit → Act → World → Prop} (hQ : ∀ a B ρ w, Fits w0 ρ B w → Q a B → Q' .normal (a ρ) w) :
    ∀ (fuel : Nat) (listed : Array Bool) (a : St) (B : Bx) (ρ : Nat → Nat) (w : World), Fits w0 ρ B w → FreeOf listed a →
    wpAnyK P md ops (fun w => Below w0.heap.size w0 w) Q fuel listed a B → wpAny P md ops Q' fuel listed (a ρ) w
  | 0, _, _, _, _, _, hf, _, h => ⟨h.1, hQ _ _ _ _ hf h.2⟩
  | fuel + 1, listed, a, B, ρ, w, hf, hfr, h => by
    refine ⟨fun h0 => hQ _ _ _ _ hf (h.1 h0), fun i hi => ?_⟩
    have h1 := h.2 i hi
    obtain ⟨hun, o, ho, _⟩ := mem_ready.1 hi
    unfold kOp at h1
    simp only [ho] at h1
    obtain ⟨x, hp, hy, hK⟩ := h1
    have hfr' := hfr.put hun o.dst x
    unfold wpOp
    simp only [ho]
    cases x with
    | val v =>
      simp only [YieldsK] at hy
      rcases hy with hy | ⟨hw, rfl⟩
      · obtain ⟨hw, hr⟩ := hy ρ
        simp only [hw, if_true]
        refine .inl ?_
        have h3 := hr w hf.below
        unfold Oper.wp
        generalize (execOp (a ρ).eval o).run P w = r at *
        cases r with
        | ok n w' =>
          cases n <;> simp only [keptUpon] at h3 <;> simp only [Oper.upon]
          case value u =>
            obtain ⟨e1, e2⟩ := h3
            rw [e1, e2]
            exact wpAny_of_kept hQ fuel _ _ B ρ w hf hfr' hK
          case skip =>
            obtain ⟨e1, e2⟩ := h3
            rw [e1, ← e2]
            exact wpAny_of_kept hQ fuel _ _ B ρ w hf hfr' hK
          case enter f args =>
            obtain ⟨e1, hc⟩ := h3
            rw [e1]
            exact hc.mono fun e w'' ⟨he, hw''⟩ => by subst he; exact wpAny_of_kept hQ fuel _ _ B ρ w'' (hf.go hw'') hfr' hK
        | halt x w' => simp only [keptUpon] at h3
      · simp only [hw ρ, Bool.false_eq_true, if_false]
        exact wpAny_of_kept hQ fuel _ _ B ρ w hf hfr' hK
    | box mk ob =>
      simp only [YieldsK] at hy
      obtain ⟨hw, hr⟩ := hy ρ
      simp only [hw, if_true]
      refine .inl ?_
      unfold Oper.wp
      rw [hr w hf.below]
      simp only [Oper.upon]
      have h5 := wpAny_of_kept hQ fuel _ _ _ (upd ρ i w.heap.size) (w.alloc ob) (hf.alloc i mk ob) hfr' hK
      have e1 : (a (upd ρ i w.heap.size)).put o.dst ((Out.box mk ob).at i (upd ρ i w.heap.size)) = (a ρ).put o.dst (mk w.heap.size) := by
        show (a (upd ρ i w.heap.size)).put o.dst (mk (upd ρ i w.heap.size i)) = _
        rw [hfr i ρ _ hun]
        have : upd ρ i w.heap.size i = w.heap.size := if_pos rfl
        rw [this]
      rwa [e1] at h5
    | put k ob0 ob =>
      obtain ⟨hw, hr⟩ := hy.2 ρ
      simp only [hw, if_true]
      refine .inl ?_
      obtain ⟨w', hr1, hr2⟩ := hr w hf.below (hf.box k _ _ hp).2
      unfold Oper.wp
      rw [hr1]
      simp only [Oper.upon]
      exact wpAny_of_kept hQ fuel _ _ _ ρ w' (hf.turn (i := i) hp hr2) hfr' hK

theorem wp_region_kept {id : Nat} {Q : Exit → Act → World → Prop} {a : Act} {w : World} {l : List Oper} (hm : P.follows .mixedOrders = true) (hB : Region.lexB .any l.toArray = true)
    (h : wpKept P l.toArray (fun w' => Below w.heap.size w w') (fun a' B => ∀ ρ w', Fits w ρ B w' → Q .normal (a' ρ) w') l 0 (fun _ => a) (fun _ => none)) : (Code.region id l.toArray true).wp P Q a w := by
  simp only [Region.lexB, Bool.and_eq_true] at hB
  refine wp_region_any hm ?_
  have hf : Fits w (fun _ => 0) (fun _ => none) { w with drawn := w.drawn + 1 } :=
    ⟨⟨rfl, rfl, rfl, Nat.le_refl _, fun _ _ => rfl⟩, fun _ _ _ h => (by cases h), fun _ _ h => absurd rfl h⟩
  refine wpAny_of_kept (Q := fun a' B => ∀ ρ w', Fits w ρ B w' → Q .normal (a' ρ) w') (fun a' B ρ w' hf' h' => h' ρ w' hf') _ _ (fun _ => a) (fun _ => none) (fun _ => 0) _ hf (fun _ _ _ _ => rfl) ?_
  have := wpAnyK_lex (C := fun w' => Below w.heap.size w w') (md := .any) hB.1 l 0 (Array.replicate l.toArray.size false) (fun _ => a) (fun _ => none) (by simp) (by simpa using hB.2) h
  simpa using this

/-! The steps. -/
variable {Q : St → Bx → Prop} {o : Oper} {rest : List Oper} {i : Nat} {a : St} {B : Bx}
theorem kept_val (v : Value) (hw : ∀ ρ, Region.wanted o (yielded ops (a ρ).tmps) = true) (h : ∀ ρ w, C w → (execOp (a ρ).eval o).run P w = .ok (.value v) w)
    (hn : wpKept P ops C Q rest (i + 1) (fun ρ => (a ρ).put o.dst v) B) : wpKept P ops C Q (o :: rest) i a B :=
  ⟨.val v, trivial, .inl fun ρ => ⟨hw ρ, fun w hc => by rw [h ρ w hc]; exact ⟨rfl, rfl⟩⟩, hn⟩
theorem kept_off (hw : ∀ ρ, Region.wanted o (yielded ops (a ρ).tmps) = false) (hn : wpKept P ops C Q rest (i + 1) (fun ρ => (a ρ).put o.dst undef) B) : wpKept P ops C Q (o :: rest) i a B :=
  ⟨.val undef, trivial, .inr ⟨hw, rfl⟩, hn⟩
theorem kept_call (f : FuncId) (args : Array Value) (v : Value) (hw : ∀ ρ, Region.wanted o (yielded ops (a ρ).tmps) = true) (h : ∀ ρ w, C w → (execOp (a ρ).eval o).run P w = .ok (.enter f args) w)
    (hc : ∀ w, C w → Calls P f args w fun e w' => e = .returned v ∧ Below w.heap.size w w')
    (hn : wpKept P ops C Q rest (i + 1) (fun ρ => (a ρ).put o.dst v) B) : wpKept P ops C Q (o :: rest) i a B :=
  ⟨.val v, trivial, .inl fun ρ => ⟨hw ρ, fun w hC => by rw [h ρ w hC]; exact ⟨rfl, hc w hC⟩⟩, hn⟩
theorem kept_box (mk : Nat → Value) (ob : Obj) (hp : B i = none) (hw : ∀ ρ, Region.wanted o (yielded ops (a ρ).tmps) = true) (h : ∀ ρ w, C w → (execOp (a ρ).eval o).run P w = .ok (.value (mk w.heap.size)) (w.alloc ob))
    (hn : wpKept P ops C Q rest (i + 1) (fun ρ => (a ρ).put o.dst (mk (ρ i))) (fun k => if k = i then some (false, ob) else B k)) : wpKept P ops C Q (o :: rest) i a B :=
  ⟨.box mk ob, hp, fun ρ => ⟨hw ρ, fun w hc => h ρ w hc⟩, hn⟩
theorem kept_end {w : World} {R : Exit → Act → World → Prop} (h : ∀ ρ w', Fits w ρ B w' → R .normal (a ρ) w') : wpKept P ops C (fun a' B => ∀ ρ w', Fits w ρ B w' → R .normal (a' ρ) w') [] i a B := h
theorem turned2 (w : World) (b : Nat) (u v x y : Value) (t : TypeId) (h : w.heap[b]? = some (.cells #[u, v] t (0, 0))) : Turned w ((w.setCell ⟨b, 0, none⟩ x).setCell ⟨b, 1, none⟩ y) b (.cells #[x, y] t (0, 0)) := by
  refine ⟨rfl, rfl, rfl, by simp [World.setCell], by simp [World.setCell, Array.getElem?_modify, h], fun k hk => ?_⟩
  rw [Below.heap_setCell _ _ _ _ hk, Below.heap_setCell _ _ _ _ hk]
/-- a store of two cells into a block that the region has made -/
theorem kept_put2 (k : Nat) (ok : Oper) (d : Tmp) (u v x y : Value) (t : TypeId) (hp : B k = some (false, .cells #[u, v] t (0, 0))) (hk : ops[k]? = some ok) (hd : ok.dst = some d) (hl : d ∈ o.looksAt ops)
    (hw : ∀ ρ, Region.wanted o (yielded ops (a ρ).tmps) = true)
    (h : ∀ ρ w, C w → w.cell? ⟨ρ k, 0, none⟩ = some u → w.cell? ⟨ρ k, 1, none⟩ = some v → w.frozen? ⟨ρ k, 0, none⟩ = false → w.frozen? ⟨ρ k, 1, none⟩ = false →
      (execOp (a ρ).eval o).run P w = .ok .skip ((w.setCell ⟨ρ k, 0, none⟩ x).setCell ⟨ρ k, 1, none⟩ y))
    (hn : wpKept P ops C Q rest (i + 1) (fun ρ => (a ρ).put o.dst undef) (fun l => if l = k then some (true, .cells #[x, y] t (0, 0)) else B l)) : wpKept P ops C Q (o :: rest) i a B :=
  ⟨.put k (.cells #[u, v] t (0, 0)) (.cells #[x, y] t (0, 0)), hp, ⟨.inr ⟨ok, d, hk, hd, hl⟩, fun ρ => ⟨hw ρ, fun w hc hb =>
    ⟨_, h ρ w hc (by rw [cell_of_row w (ρ k) 0 _ t (0, 0) hb]; rfl) (by rw [cell_of_row w (ρ k) 1 _ t (0, 0) hb]; rfl) (by simp [World.frozen?, hb]) (by simp [World.frozen?, hb]), turned2 w (ρ k) u v x y t hb⟩⟩⟩, hn⟩
/-- a store of two cells into a block that was made ahead of the region -/
theorem kept_putK (k : Nat) (u v x y : Value) (t : TypeId) (hp : B k = some (false, .cells #[u, v] t (0, 0))) (hk : ops[k]? = none)
    (hw : ∀ ρ, Region.wanted o (yielded ops (a ρ).tmps) = true)
    (h : ∀ ρ w, C w → w.cell? ⟨ρ k, 0, none⟩ = some u → w.cell? ⟨ρ k, 1, none⟩ = some v → w.frozen? ⟨ρ k, 0, none⟩ = false → w.frozen? ⟨ρ k, 1, none⟩ = false →
      (execOp (a ρ).eval o).run P w = .ok .skip ((w.setCell ⟨ρ k, 0, none⟩ x).setCell ⟨ρ k, 1, none⟩ y))
    (hn : wpKept P ops C Q rest (i + 1) (fun ρ => (a ρ).put o.dst undef) (fun l => if l = k then some (true, .cells #[x, y] t (0, 0)) else B l)) : wpKept P ops C Q (o :: rest) i a B :=
  ⟨.put k (.cells #[u, v] t (0, 0)) (.cells #[x, y] t (0, 0)), hp, ⟨.inl hk, fun ρ => ⟨hw ρ, fun w hc hb =>
    ⟨_, h ρ w hc (by rw [cell_of_row w (ρ k) 0 _ t (0, 0) hb]; rfl) (by rw [cell_of_row w (ρ k) 1 _ t (0, 0) hb]; rfl) (by simp [World.frozen?, hb]) (by simp [World.frozen?, hb]), turned2 w (ρ k) u v x y t hb⟩⟩⟩, hn⟩
/-- the region stores into a block that was made ahead of it (its number K: none of an operation's) -/
theorem wp_region_kept_at {id : Nat} {Q : Exit → Act → World → Prop} {a : Act} {w0 w : World} {l : List Oper} (K b : Nat) (s : Tmp) (ob : Obj) (hm : P.follows .mixedOrders = true) (hB : Region.lexB .any l.toArray = true)
    (hK : l.length ≤ K) (h0 : Below w0.heap.size w0 w) (hb : w0.heap.size ≤ b) (hob : w.heap[b]? = some ob) (ha : a.put (some s) (.pointer (some ⟨b, 0, none⟩)) = a)
    (h : wpKept P l.toArray (fun w' => Below w0.heap.size w0 w') (fun a' B => ∀ ρ w', Fits w0 ρ B w' → Q .normal (a' ρ) w') l 0 (fun ρ => a.put (some s) (.pointer (some ⟨ρ K, 0, none⟩))) (fun k => if k = K then some (false, ob) else none)) : (Code.region id l.toArray true).wp P Q a w := by
  simp only [Region.lexB, Bool.and_eq_true] at hB
  refine wp_region_any hm ?_
  have hf : Fits w0 (fun _ => b) (fun k => if k = K then some (false, ob) else none) { w with drawn := w.drawn + 1 } := by
    refine ⟨⟨h0.os, h0.tape, h0.output, h0.size, h0.block⟩, ?_, ?_⟩
    · intro k s' o' hk
      by_cases hkK : k = K
      · rw [if_pos hkK] at hk
        simp only [Option.some.injEq, Prod.mk.injEq] at hk
        exact ⟨hb, by rw [← hk.2]; exact hob⟩
      · rw [if_neg hkK] at hk; cases hk
    · intro k j hk hj _
      by_cases hkK : k = K
      · by_cases hjK : j = K
        · rw [hkK, hjK]
        · rw [if_neg hjK] at hj; exact absurd rfl hj
      · rw [if_neg hkK] at hk; exact absurd rfl hk
  have hfr : FreeOf (Array.replicate l.toArray.size false) (fun ρ => a.put (some s) (.pointer (some ⟨ρ K, 0, none⟩))) := by
    intro i ρ c hi
    have hlt : i < l.length := by
      rcases Nat.lt_or_ge i l.length with h' | h'
      · exact h'
      · rw [Array.getD_eq_getD_getElem?, Array.getElem?_eq_none (by simpa using h')] at hi; cases hi
    have e : upd ρ i c K = ρ K := if_neg (by omega)
    show a.put (some s) (.pointer (some ⟨upd ρ i c K, 0, none⟩)) = _
    rw [e]
  have := wpAnyK_lex (C := fun w' => Below w0.heap.size w0 w') (md := .any) hB.1 l 0 (Array.replicate l.toArray.size false) (fun ρ => a.put (some s) (.pointer (some ⟨ρ K, 0, none⟩))) _ (by simp) (by simpa using hB.2) h
  have h2 := wpAny_of_kept (Q := fun a' B => ∀ ρ w', Fits w0 ρ B w' → Q .normal (a' ρ) w') (fun a' B ρ w' hf' h' => h' ρ w' hf') _ _ (fun ρ => a.put (some s) (.pointer (some ⟨ρ K, 0, none⟩))) _ (fun _ => b) _ hf hfr this
  rw [ha] at h2
  simpa using h2
end
end Go.Proofs.YtgnppdkeiihlfaaGreatDoor
namespace Go.Proofs.YtgnppdkeiihlfaaGreatDoor
open Go.RowKit Num
theorem below_alloc (w : World) (o : Obj) : Below w.heap.size w (w.alloc o) := (Below.refl _ _).alloc (Nat.le_refl _) _

theorem bdr (w : World) : Below w.heap.size w w.drew := (Below.refl _ _).drew
theorem below_set2 {w w3 : World} {b : Nat} (h : Below w.heap.size w w3) (hb : w.heap.size ≤ b) (u0 u1 : Value) : Below w.heap.size w ((w3.setCell ⟨b, 0, none⟩ u0).setCell ⟨b, 1, none⟩ u1) :=
  (h.setCell (p := ⟨b, 0, none⟩) hb u0).setCell (p := ⟨b, 1, none⟩) hb u1

def printL (l : List UInt8) : List UInt8 := if val l = 0 then [48] else canon (val l)
/-- what Parse returns -/
def parseI (s : List UInt8) : List UInt8 × Int := if 65536 < s.length then ([], 4) else if printL s = s then (canon (val s), 0) else ([], 3)
/-- the sign of a comparison -/
def cmpZ (a b : Int) : Int := if a < b then -1 else if b < a then 1 else 0
/-- the quotient, rounded down, and its remainder -/
def divZ (a b : Int) : Int := if 0 < b then a / b else (-a) / (-b)
def modZ (a b : Int) : Int := if 0 < b then a % b else -((-a) % (-b))
theorem pos_div (X Y : Nat) : (X : Int) / Y = (X / Y : Nat) ∧ (X : Int) % Y = (X % Y : Nat) := ⟨by rw [Int.natCast_ediv], by rw [Int.natCast_emod]⟩
theorem neg_div0 (X Y : Nat) (hY : 0 < Y) (h : X % Y = 0) : -(X : Int) / Y = -((X / Y : Nat) : Int) ∧ -(X : Int) % Y = 0 := by
  apply (Int.ediv_emod_unique (by omega)).2
  refine ⟨?_, by omega, by omega⟩
  have := Nat.div_add_mod X Y
  rw [h] at this
  have e : (Y : Int) * ((X / Y : Nat) : Int) = X := by rw [← Int.natCast_mul]; omega
  rw [Int.mul_neg, e]; omega
theorem neg_div1 (X Y : Nat) (hY : 0 < Y) (h : X % Y ≠ 0) : -(X : Int) / Y = -((X / Y + 1 : Nat) : Int) ∧ -(X : Int) % Y = ((Y - X % Y : Nat) : Int) := by
  apply (Int.ediv_emod_unique (by omega)).2
  have h2 := Nat.mod_lt X hY
  refine ⟨?_, by omega, by omega⟩
  have := Nat.div_add_mod X Y
  have e : (Y : Int) * ((X / Y + 1 : Nat) : Int) = ((Y * (X / Y) + Y : Nat) : Int) := by rw [← Int.natCast_mul, Nat.mul_add, Nat.mul_one]
  rw [Int.mul_neg, e]; omega
theorem div_same {nx ny : Bool} {X Y : Nat} (h : nx = ny) (hY : 0 < Y) : divZ (sgn nx X) (sgn ny Y) = sgn (nx != ny) (X / Y) ∧ modZ (sgn nx X) (sgn ny Y) = sgn ny (X % Y) := by
  subst h
  obtain ⟨h1, h2⟩ := pos_div X Y
  unfold divZ modZ sgn
  cases nx
  · simp only [Bool.false_eq_true, if_false, bne_self_eq_false]
    rw [if_pos (by omega), if_pos (by omega)]; exact ⟨h1, h2⟩
  · simp only [if_true, bne_self_eq_false, Bool.false_eq_true, if_false, Int.neg_neg]
    rw [if_neg (by omega), if_neg (by omega), h1, h2]; exact ⟨rfl, rfl⟩
theorem div_diff0 {nx ny : Bool} {X Y : Nat} (h : nx ≠ ny) (hY : 0 < Y) (h0 : X % Y = 0) : divZ (sgn nx X) (sgn ny Y) = sgn (nx != ny) (X / Y) ∧ modZ (sgn nx X) (sgn ny Y) = sgn ny (X % Y) := by
  obtain ⟨h1, h2⟩ := neg_div0 X Y hY h0
  unfold divZ modZ sgn
  cases nx <;> cases ny
  · exact absurd rfl h
  · simp only [if_true, Bool.false_eq_true, if_false, Int.neg_neg, Bool.false_bne]
    rw [if_neg (by omega), if_neg (by omega), h1, h2, h0]; exact ⟨rfl, rfl⟩
  · simp only [if_true, Bool.false_eq_true, if_false, Bool.true_bne, Bool.not_false]
    rw [if_pos (by omega), if_pos (by omega), h1, h2, h0]; exact ⟨rfl, rfl⟩
  · exact absurd rfl h
theorem div_diff1 {nx ny : Bool} {X Y : Nat} (h : nx ≠ ny) (hY : 0 < Y) (h0 : X % Y ≠ 0) : divZ (sgn nx X) (sgn ny Y) = sgn (nx != ny) (X / Y + 1) ∧ modZ (sgn nx X) (sgn ny Y) = sgn ny (Y - X % Y) := by
  obtain ⟨h1, h2⟩ := neg_div1 X Y hY h0
  unfold divZ modZ sgn
  cases nx <;> cases ny
  · exact absurd rfl h
  · simp only [if_true, Bool.false_eq_true, if_false, Int.neg_neg, Bool.false_bne]
    rw [if_neg (by omega), if_neg (by omega), h1, h2]; exact ⟨rfl, rfl⟩
  · simp only [if_true, Bool.false_eq_true, if_false, Bool.true_bne, Bool.not_false]
    rw [if_pos (by omega), if_pos (by omega), h1, h2]; exact ⟨rfl, rfl⟩
  · exact absurd rfl h

theorem val_nil : val [] = 0 := rfl
theorem val_lt_of {l : List UInt8} {k : Nat} (h : l.length ≤ k) : (val l).natAbs < 10 ^ k :=
  Nat.lt_of_lt_of_le (val_lt l) (Nat.pow_le_pow_right (by decide) h)
/-- a box of two cells -/
structure FBox (W : World) (b : Nat) (u v : Value) : Prop where
  c0 : W.cell? ⟨b, 0, none⟩ = some u
  c1 : W.cell? ⟨b, 1, none⟩ = some v
  f0 : W.frozen? ⟨b, 0, none⟩ = false
  f1 : W.frozen? ⟨b, 1, none⟩ = false
  lt : b < W.heap.size
theorem FBox.new (W : World) (u v : Value) (t : TypeId) : FBox (W.alloc (.cells #[u, v] t)) W.heap.size u v := ⟨by simp [go_sem], by simp [go_sem], by simp [go_sem], by simp [go_sem], by simp⟩
theorem FBox.below {W W' : World} {b : Nat} {u v : Value} (h : FBox W b u v) (k : Below W.heap.size W W') : FBox W' b u v :=
  ⟨(k.cell (p := ⟨b, 0, none⟩) h.lt).trans h.c0, (k.cell (p := ⟨b, 1, none⟩) h.lt).trans h.c1, (k.frozen (p := ⟨b, 0, none⟩) h.lt).trans h.f0, (k.frozen (p := ⟨b, 1, none⟩) h.lt).trans h.f1, Nat.lt_of_lt_of_le h.lt k.size⟩
theorem FBox.set {W : World} {b : Nat} {u v : Value} (h : FBox W b u v) (x y : Value) : FBox ((W.setCell ⟨b, 0, none⟩ x).setCell ⟨b, 1, none⟩ y) b x y := by
  have c0 := h.c0; have c1 := h.c1; have f0 := h.f0; have f1 := h.f1; have lt := h.lt
  refine ⟨by simp [go_sem, c0], by simp [go_sem, c1], by simp [go_sem, f0], by simp [go_sem, f1], by simp [lt]⟩

theorem str_add2 (a b : List UInt8) (h : a.length + b.length ≤ 1000000000) (w : World) : (Op.stringOp .add ⟨a.toArray⟩ ⟨b.toArray⟩).run Tryz.prog w = .ok (.string ⟨(a ++ b).toArray⟩) w := by
  rw [run_string_add_sum w ⟨a.toArray⟩ ⟨b.toArray⟩ (by show a.toArray.size + b.toArray.size ≤ _; simp; omega)]
  congr 2
/-- a call that returns v and keeps what lay -/
def Ret (f : Nat) (args : Array Value) (v : Value) : Prop := ∀ w : World, Glob w → Calls Tryz.prog f args w fun e w' => e = .returned v ∧ Below w.heap.size w w'
theorem Ret.of {f : Nat} {args : Array Value} {v : Value} (h : Ret f args v) {w w' : World} (hG : Glob w) (hb : Below w.heap.size w w') :
    Calls Tryz.prog f args w' fun e w'' => e = .returned v ∧ Below w'.heap.size w' w'' := h w' (hG.below hb)
theorem FBox.ofB {w : World} {b : Nat} {u v : Value} {t : TypeId} (h : w.heap[b]? = some (.cells #[u, v] t (0, 0))) : FBox w b u v :=
  ⟨by rw [cell_of_row w b 0 _ t (0, 0) h]; rfl, by rw [cell_of_row w b 1 _ t (0, 0) h]; rfl, by simp [World.frozen?, h], by simp [World.frozen?, h], (Array.getElem?_eq_some_iff.1 h).1⟩

theorem own_far {w : World} {base n : Nat} {e : TypeId} {v : Value} {xs : List Value} (h : w.ownsRow base e 1 v n xs) {p : Addr} (hp : v.ownBlock ≠ some p.block) (u : Value) : (w.setCell p u).ownsRow base e 1 v n xs := by
  refine ⟨h.1, ?_⟩
  rcases h.2 with h0 | ⟨g, cap, cur, hv, hb1, hh, hr⟩
  · exact .inl h0
  · refine .inr ⟨g, cap, cur, hv, hb1, ?_, hr⟩
    rw [Below.heap_setCell _ _ _ _ (by rintro rfl; exact hp (by rw [hv]; rfl))]
    exact hh

/-- the last statement of Div: both texts -/
def DivEnd (w : World) (q r : Int) (e : Ending) (w' : World) : Prop := e = .returned (.tuple #[.string ⟨(canon q).toArray⟩, .string ⟨(canon r).toArray⟩, .int .i64 0]) ∧ Below w.heap.size w w'

end Go.Proofs.YtgnppdkeiihlfaaGreatDoor
namespace Go.Proofs.YtgnppdkeiihlfaaGreatDoor
open Go.RowKit
section
variable {P : Program} {md : Region.Mode}
/-- each operation but the last is used by a later one; each waits for earlier ones alone -/
def usedB (md : Region.Mode) (l : List Oper) (st : Oper) : Bool :=
  (List.range l.length).all (fun i => (((l ++ [st]).drop (i + 1))).any (fun o => o.after.any (fun e => Region.binds md e && e.on == i))) &&
  (List.range (l.length + 1)).all (fun j => (((l ++ [st])[j]?).map (fun o => o.after.all (fun e => decide (e.on < j)))).getD true)
theorem usedB_use {l : List Oper} {st : Oper} (h : usedB md l st = true) {i : Nat} (hi : i < l.length) : ∃ j o e, i < j ∧ (l ++ [st])[j]? = some o ∧ e ∈ o.after ∧ Region.binds md e = true ∧ e.on = i := by
  simp only [usedB, Bool.and_eq_true, List.all_eq_true, List.mem_range, List.any_eq_true] at h
  obtain ⟨o, ho, hh⟩ := h.1 i hi
  obtain ⟨k, hk⟩ := List.mem_iff_getElem?.1 ho
  rw [List.getElem?_drop] at hk
  rw [Array.any_eq_true] at hh
  obtain ⟨m, hm, he⟩ := hh
  simp only [Bool.and_eq_true, beq_iff_eq] at he
  exact ⟨i + 1 + k, o, o.after[m], by omega, hk, Array.getElem_mem hm, he.1, he.2⟩
theorem usedB_back {l : List Oper} {st : Oper} (h : usedB md l st = true) {j : Nat} {o : Oper} (ho : (l ++ [st])[j]? = some o) : ∀ e ∈ o.after, e.on < j := by
  simp only [usedB, Bool.and_eq_true, List.all_eq_true, List.mem_range] at h
  have hj : j < l.length + 1 := by have := (List.getElem?_eq_some_iff.1 ho).1; simpa using this
  have h2 := h.2 j hj
  rw [ho] at h2
  simp only [Option.map_some, Option.getD_some, Array.all_eq_true_iff_forall_mem] at h2
  intro e he
  simpa using h2 e he
structure Tw (l : List Oper) (st : Oper) (md : Region.Mode) (listed listed0 : Array Bool) : Prop where
  s : listed.size = l.length + 1
  s0 : listed0.size = l.length
  same : ∀ j, j < l.length → listed.getD j true = listed0.getD j true
  last : listed.getD l.length true = false
  down : ∀ j o, j < l.length → listed.getD j true = true → (l ++ [st])[j]? = some o → ∀ e ∈ o.after, Region.binds md e = true → listed.getD e.on true = true
theorem getD_tf {x : Array Bool} {j : Nat} (h : j < x.size) : x.getD j true = x.getD j false := by simp [h]
theorem Tw.all {l : List Oper} {st : Oper} {listed listed0 : Array Bool} (t : Tw l st md listed listed0) (hU : usedB md l st = true) (h : Region.ready md l.toArray listed0 = []) : ∀ j, j < l.length → listed0.getD j true = true := by
  intro j
  induction j using Nat.strongRecOn with
  | _ j ih =>
    intro hj
    by_cases hx : listed0.getD j true = true
    · exact hx
    · have : j ∈ Region.ready md l.toArray listed0 := by
        rw [mem_ready]
        refine ⟨by simpa using hx, l[j], by simp [hj], fun e he _ => ?_⟩
        have h1 : (l ++ [st])[j]? = some l[j] := by rw [List.getElem?_append_left hj]; simp [hj]
        have h2 := usedB_back hU h1 e he
        rw [← getD_tf (by rw [t.s0]; omega)]
        exact ih e.on h2 (by omega)
      rw [h] at this; cases this
theorem Tw.ready_last {l : List Oper} {st : Oper} {listed listed0 : Array Bool} (t : Tw l st md listed listed0) (hU : usedB md l st = true) (h : ∀ j, j < l.length → listed0.getD j true = true) : l.length ∈ Region.ready md (l ++ [st]).toArray listed := by
  rw [mem_ready]
  refine ⟨t.last, st, by simp, fun e he _ => ?_⟩
  have h2 := usedB_back hU (j := l.length) (o := st) (by simp) e he
  rw [← getD_tf (by rw [t.s]; omega), t.same _ h2]
  exact h _ h2
theorem Tw.of_last {l : List Oper} {st : Oper} {listed listed0 : Array Bool} (t : Tw l st md listed listed0) (hU : usedB md l st = true) (h : l.length ∈ Region.ready md (l ++ [st]).toArray listed) : ∀ j, j < l.length → listed0.getD j true = true := by
  obtain ⟨_, o, ho, hall⟩ := mem_ready.1 h
  have hst : o = st := by simpa using ho.symm
  subst hst
  have key : ∀ m j, l.length - j ≤ m → j < l.length → listed.getD j true = true := by
    intro m
    induction m with
    | zero => intro j h1 h2; omega
    | succ m ih =>
      intro j h1 h2
      obtain ⟨k, o', e, hk, ho', he, hb, rfl⟩ := usedB_use hU h2
      by_cases hkl : k < l.length
      · exact t.down k o' hkl (ih k (by omega) hkl) ho' e he hb
      · have hk2 : k = l.length := by have := (List.getElem?_eq_some_iff.1 ho').1; simp at this; omega
        subst hk2
        have ho2 : o' = o := by simpa using ho'.symm
        subst ho2
        have := hall e he hb
        rw [getD_tf (by rw [t.s]; omega)]
        exact this
  intro j hj
  rw [← t.same j hj]
  exact key _ j (Nat.le_refl _) hj
theorem Tw.ready {l : List Oper} {st : Oper} {listed listed0 : Array Bool} (t : Tw l st md listed listed0) (hU : usedB md l st = true) {i : Nat} (hi : i < l.length) (h : i ∈ Region.ready md (l ++ [st]).toArray listed) : i ∈ Region.ready md l.toArray listed0 := by
  obtain ⟨h0, o, ho, hall⟩ := mem_ready.1 h
  have ho2 : (l ++ [st])[i]? = some o := by simpa using ho
  rw [mem_ready]
  refine ⟨by rw [← t.same i hi]; exact h0, o, by rw [List.getElem?_append_left hi] at ho2; simpa using ho2, fun e he hb => ?_⟩
  have h2 := usedB_back hU ho2 e he
  have h3 := hall e he hb
  rw [← getD_tf (by rw [t.s0]; omega), ← t.same e.on (by omega), getD_tf (by rw [t.s]; omega)]
  exact h3
theorem Tw.step {l : List Oper} {st : Oper} {listed listed0 : Array Bool} (t : Tw l st md listed listed0) (hU : usedB md l st = true) {i : Nat} (hi : i < l.length) (h : i ∈ Region.ready md (l ++ [st]).toArray listed) : Tw l st md (listed.setIfInBounds i true) (listed0.setIfInBounds i true) := by
  obtain ⟨h0, o, ho, hall⟩ := mem_ready.1 h
  have ho2 : (l ++ [st])[i]? = some o := by simpa using ho
  refine ⟨by simp [t.s], by simp [t.s0], fun j hj => ?_, by rw [getD_set_ne true (by omega)]; exact t.last, fun j o' hj hl ho' e he hb => ?_⟩
  · by_cases hij : i = j
    · subst hij; simp [t.s, t.s0, hi, Nat.lt_succ_of_lt hi]
    · rw [getD_set_ne true hij, getD_set_ne true hij]; exact t.same j hj
  · by_cases hij : i = j
    · subst hij
      have : o' = o := by rw [ho2] at ho'; injection ho' with h; exact h.symm
      subst this
      have h2 := usedB_back hU ho2 e he
      have h3 := hall e he hb
      rw [getD_set_ne true (by omega), getD_tf (by rw [t.s]; omega)]
      exact h3
    · rw [getD_set_ne true hij] at hl
      have := t.down j o' hj hl ho' e he hb
      by_cases hie : i = e.on
      · rw [← hie]; simp [t.s, Nat.lt_succ_of_lt hi]
      · rw [getD_set_ne true hie]; exact this
theorem yielded_last {l : List Oper} {st : Oper} (hd : st.dst = none) (tmps : Array Value) : yielded (l ++ [st]).toArray tmps = yielded l.toArray tmps := by
  funext j
  unfold yielded
  have : ((l ++ [st]).toArray[j]?).bind (·.dst) = (l.toArray[j]?).bind (·.dst) := by
    by_cases hj : j < l.length
    · simp [List.getElem?_append_left hj]
    · have h1 : l.toArray[j]? = none := by simp; omega
      rw [h1]
      by_cases hj2 : j = l.length
      · subst hj2; simp [hd]
      · have h2 : (l ++ [st]).toArray[j]? = none := by simp; omega
        rw [h2]
  rw [this]
theorem wpAny_of_last {w0 : World} {l : List Oper} {st : Oper} (hU : usedB md l st = true) (hd : st.dst = none) (hg : st.guard = none) {Q' : Exit → Act → World → Prop}
    {Q : St → Bx → Prop} (hQ : ∀ a B ρ w, Fits w0 ρ B w → Q a B → ∃ w'', (execOp (a ρ).eval st).run P w = .ok .skip w'' ∧ Q' .normal (a ρ) w'') :
    ∀ (fuel : Nat) (listed listed0 : Array Bool) (a : St) (B : Bx) (ρ : Nat → Nat) (w : World), Tw l st md listed listed0 → Fits w0 ρ B w → FreeOf listed0 a →
    wpAnyK P md l.toArray (fun w => Below w0.heap.size w0 w) Q fuel listed0 a B → wpAny P md (l ++ [st]).toArray Q' (fuel + 1) listed (a ρ) w := by
  intro fuel
  induction fuel with
  | zero =>
    intro listed listed0 a B ρ w t hf hfr h
    have hall := t.all hU h.1
    refine ⟨fun h0 => ?_, fun i hi => ?_⟩
    · have := t.ready_last hU hall; rw [h0] at this; cases this
    · by_cases hil : i < l.length
      · have := t.ready hU hil hi; rw [h.1] at this; cases this
      · have hi2 : i = l.length := by
          have := (mem_ready.1 hi).2; obtain ⟨o, ho, _⟩ := this
          have := (Array.getElem?_eq_some_iff.1 ho).1; simp at this; omega
        subst hi2
        obtain ⟨w'', hr, hq⟩ := hQ _ _ _ _ hf h.2
        unfold wpOp
        simp only [List.getElem?_toArray, List.getElem?_append_right (Nat.le_refl _), Nat.sub_self, List.getElem?_cons_zero]
        have hw : Region.wanted st (yielded (l ++ [st]).toArray (a ρ).tmps) = true := by unfold Region.wanted; rw [hg]
        simp only [hw, if_true]
        refine .inl ?_
        unfold Oper.wp
        rw [hr]
        simp only [Oper.upon, hd]
        refine ⟨?_, hq⟩
        apply List.eq_nil_iff_forall_not_mem.2
        intro j hj
        have hj0 := (mem_ready.1 hj).1
        by_cases hjl : j = l.length
        · subst hjl; simp [t.s] at hj0
        · have hlt : j < l.length := by
            obtain ⟨o, ho, _⟩ := (mem_ready.1 hj).2
            have := (Array.getElem?_eq_some_iff.1 ho).1; simp at this; omega
          rw [getD_set_ne true (by omega), t.same j hlt, hall j hlt] at hj0; cases hj0
  | succ fuel ih =>
    intro listed listed0 a B ρ w t hf hfr h
    refine ⟨fun h0 => ?_, fun i hi => ?_⟩
    · have hr0 : Region.ready md l.toArray listed0 = [] := by
        apply List.eq_nil_iff_forall_not_mem.2
        intro j hj
        obtain ⟨j0, o, ho, hall⟩ := mem_ready.1 hj
        have hjl : j < l.length := by have := (Array.getElem?_eq_some_iff.1 ho).1; simpa using this
        have : j ∈ Region.ready md (l ++ [st]).toArray listed := by
          rw [mem_ready]
          have ho2 : (l ++ [st])[j]? = some o := by rw [List.getElem?_append_left hjl]; simpa using ho
          refine ⟨by rw [t.same j hjl]; exact j0, o, by simpa using ho2, fun e he hb => ?_⟩
          have h2 := usedB_back hU ho2 e he
          have h3 := hall e he hb
          rw [← getD_tf (by rw [t.s]; omega), t.same e.on (by omega), getD_tf (by rw [t.s0]; omega)]
          exact h3
        rw [h0] at this; cases this
      have := t.ready_last hU (t.all hU hr0); rw [h0] at this; cases this
    · by_cases hil : i < l.length
      · have hi0 := t.ready hU hil hi
        have h1 := h.2 i hi0
        have t' := t.step hU hil hi
        obtain ⟨hun, o, ho, _⟩ := mem_ready.1 hi0
        have ho2 : (l ++ [st]).toArray[i]? = some o := by
          have : (l ++ [st])[i]? = some o := by rw [List.getElem?_append_left hil]; simpa using ho
          simpa using this
        unfold kOp at h1
        simp only [ho] at h1
        obtain ⟨x, hp, hy, hK⟩ := h1
        have hfr' := hfr.put hun o.dst x
        unfold wpOp
        simp only [ho2, yielded_last hd]
        cases x with
        | val v =>
          simp only [YieldsK] at hy
          rcases hy with hy | ⟨hw, rfl⟩
          · obtain ⟨hw, hr⟩ := hy ρ
            simp only [hw, if_true]
            refine .inl ?_
            have h3 := hr w hf.below
            unfold Oper.wp
            generalize (execOp (a ρ).eval o).run P w = r at *
            cases r with
            | ok n w' =>
              cases n <;> simp only [keptUpon] at h3 <;> simp only [Oper.upon]
              case value u =>
                obtain ⟨e1, e2⟩ := h3
                rw [e1, e2]
                exact ih _ _ _ B ρ w t' hf hfr' hK
              case skip =>
                obtain ⟨e1, e2⟩ := h3
                rw [e1, ← e2]
                exact ih _ _ _ B ρ w t' hf hfr' hK
              case enter f args =>
                obtain ⟨e1, hc⟩ := h3
                rw [e1]
                exact hc.mono fun e w'' ⟨he, hw''⟩ => by subst he; exact ih _ _ _ B ρ w'' t' (hf.go hw'') hfr' hK
            | halt x w' => simp only [keptUpon] at h3
          · simp only [hw ρ, Bool.false_eq_true, if_false]
            exact ih _ _ _ B ρ w t' hf hfr' hK
        | box mk ob =>
          simp only [YieldsK] at hy
          obtain ⟨hw, hr⟩ := hy ρ
          simp only [hw, if_true]
          refine .inl ?_
          unfold Oper.wp
          rw [hr w hf.below]
          simp only [Oper.upon]
          have h5 := ih _ _ _ _ (upd ρ i w.heap.size) (w.alloc ob) t' (hf.alloc i mk ob) hfr' hK
          have e1 : (a (upd ρ i w.heap.size)).put o.dst ((Out.box mk ob).at i (upd ρ i w.heap.size)) = (a ρ).put o.dst (mk w.heap.size) := by
            show (a (upd ρ i w.heap.size)).put o.dst (mk (upd ρ i w.heap.size i)) = _
            rw [hfr i ρ _ hun]
            have : upd ρ i w.heap.size i = w.heap.size := if_pos rfl
            rw [this]
          rwa [e1] at h5
        | put k ob0 ob =>
          obtain ⟨hw, hr⟩ := hy.2 ρ
          simp only [hw, if_true]
          refine .inl ?_
          obtain ⟨w', hr1, hr2⟩ := hr w hf.below (hf.box k _ _ hp).2
          unfold Oper.wp
          rw [hr1]
          simp only [Oper.upon]
          exact ih _ _ _ _ ρ w' t' (hf.turn (i := i) hp hr2) hfr' hK
      · have hi2 : i = l.length := by
          obtain ⟨o, ho, _⟩ := (mem_ready.1 hi).2
          have := (Array.getElem?_eq_some_iff.1 ho).1; simp at this; omega
        subst hi2
        have hall := t.of_last hU hi
        have hr0 : Region.ready md l.toArray listed0 = [] := by
          apply List.eq_nil_iff_forall_not_mem.2
          intro j hj
          obtain ⟨j0, o, ho, _⟩ := mem_ready.1 hj
          have hjl : j < l.length := by have := (Array.getElem?_eq_some_iff.1 ho).1; simpa using this
          rw [hall j hjl] at j0; cases j0
        obtain ⟨w'', hr, hq⟩ := hQ _ _ _ _ hf (h.1 hr0)
        have hnone : Region.ready md (l ++ [st]).toArray (listed.setIfInBounds l.length true) = [] := by
          apply List.eq_nil_iff_forall_not_mem.2
          intro j hj
          have hj0 := (mem_ready.1 hj).1
          by_cases hjl : j = l.length
          · subst hjl; simp [t.s] at hj0
          · have hlt : j < l.length := by
              obtain ⟨o, ho, _⟩ := (mem_ready.1 hj).2
              have := (Array.getElem?_eq_some_iff.1 ho).1; simp at this; omega
            rw [getD_set_ne true (by omega), t.same j hlt, hall j hlt] at hj0; cases hj0
        unfold wpOp
        simp only [List.getElem?_toArray, List.getElem?_append_right (Nat.le_refl _), Nat.sub_self, List.getElem?_cons_zero]
        have hw : Region.wanted st (yielded (l ++ [st]).toArray (a ρ).tmps) = true := by unfold Region.wanted; rw [hg]
        simp only [hw, if_true]
        refine .inl ?_
        unfold Oper.wp
        rw [hr]
        simp only [Oper.upon, hd]
        exact ⟨fun _ => hq, fun j hj => by rw [hnone] at hj; cases hj⟩
/-- the region's last operation is a store that waits for all others -/
theorem wp_region_last {id : Nat} {Q : Exit → Act → World → Prop} {a : Act} {w : World} {l : List Oper} {st : Oper} (hm : P.follows .mixedOrders = true) (hB : Region.lexB .any l.toArray = true) (hU : usedB .any l st = true) (hd : st.dst = none) (hg : st.guard = none)
    (h : wpKept P l.toArray (fun w' => Below w.heap.size w w') (fun a' B => ∀ ρ w', Fits w ρ B w' → ∃ w'', (execOp (a' ρ).eval st).run P w' = .ok .skip w'' ∧ Q .normal (a' ρ) w'') l 0 (fun _ => a) (fun _ => none)) : (Code.region id (l ++ [st]).toArray true).wp P Q a w := by
  simp only [Region.lexB, Bool.and_eq_true] at hB
  refine wp_region_any hm ?_
  have hf : Fits w (fun _ => 0) (fun _ => none) { w with drawn := w.drawn + 1 } :=
    ⟨⟨rfl, rfl, rfl, Nat.le_refl _, fun _ _ => rfl⟩, fun _ _ _ h => (by cases h), fun _ _ h => absurd rfl h⟩
  have h1 := wpAnyK_lex (C := fun w' => Below w.heap.size w w') (md := .any) hB.1 l 0 (Array.replicate l.toArray.size false) (fun _ => a) (fun _ => none) (by simp) (by simpa using hB.2) h
  have t : Tw l st .any (Array.replicate (l ++ [st]).toArray.size false) (Array.replicate l.toArray.size false) := by
    refine ⟨by simp, by simp, fun j hj => ?_, ?_, fun j o hj hl => ?_⟩
    · simp [hj, Nat.lt_succ_of_lt hj]
    · simp
    · simp [Nat.lt_succ_of_lt hj] at hl
  have h2 := wpAny_of_last (P := P) (md := .any) hU hd hg (Q' := Q) (fun a' B ρ w' hf' h' => h' ρ w' hf') l.length _ _ (fun _ => a) (fun _ => none) (fun _ => 0) _ t hf (fun _ _ _ _ => rfl) h1
  simpa using h2
/-- the same over the region's list as it stands -/
theorem wp_region_lastD {id : Nat} {Q : Exit → Act → World → Prop} {a : Act} {w : World} {L : List Oper} (hne : L ≠ []) (hm : P.follows .mixedOrders = true) (hB : Region.lexB .any L.dropLast.toArray = true) (hU : usedB .any L.dropLast (L.getLast hne) = true) (hd : (L.getLast hne).dst = none) (hg : (L.getLast hne).guard = none)
    (h : wpKept P L.dropLast.toArray (fun w' => Below w.heap.size w w') (fun a' B => ∀ ρ w', Fits w ρ B w' → ∃ w'', (execOp (a' ρ).eval (L.getLast hne)).run P w' = .ok .skip w'' ∧ Q .normal (a' ρ) w'') L.dropLast 0 (fun _ => a) (fun _ => none)) : (Code.region id L.toArray true).wp P Q a w := by
  have := wp_region_last (id := id) hm hB hU hd hg h
  rwa [List.dropLast_concat_getLast] at this
/-- the end of the walk: the store of two cells into the block b, which lay there -/
theorem last_put2 {st : Oper} {w : World} {Q : Exit → Act → World → Prop} {ops : Array Oper} {C : World → Prop} {i : Nat} {a : St} {B : Bx} (b : Nat) (u v x y : Value) (hb : FBox w b u v)
    (h : ∀ ρ w', w'.cell? ⟨b, 0, none⟩ = some u → w'.cell? ⟨b, 1, none⟩ = some v → w'.frozen? ⟨b, 0, none⟩ = false → w'.frozen? ⟨b, 1, none⟩ = false → (execOp (a ρ).eval st).run P w' = .ok .skip ((w'.setCell ⟨b, 0, none⟩ x).setCell ⟨b, 1, none⟩ y))
    (hn : ∀ ρ w', Fits w ρ B w' → FBox w' b u v → Q .normal (a ρ) ((w'.setCell ⟨b, 0, none⟩ x).setCell ⟨b, 1, none⟩ y)) :
    wpKept P ops C (fun a' B => ∀ ρ w', Fits w ρ B w' → ∃ w'', (execOp (a' ρ).eval st).run P w' = .ok .skip w'' ∧ Q .normal (a' ρ) w'') [] i a B := by
  intro ρ w' hF
  have hb2 := hb.below hF.below
  exact ⟨_, h ρ w' hb2.c0 hb2.c1 hb2.f0 hb2.f1, hn ρ w' hF hb2⟩
end
end Go.Proofs.YtgnppdkeiihlfaaGreatDoor
namespace Go.Proofs.YtgnppdkeiihlfaaGreatDoor
open Go.RowKit
section
variable {P : Program} {md : Region.Mode}
theorem Oper.wp_mono2 {o : Oper} {a : Act} {w : World} {K K' : Act → World → Prop} {Q Q' : Exit → Act → World → Prop} (h : ∀ a w, K a w → K' a w) (hp : ∀ c a w, Q (.panic c) a w → Q' (.panic c) a w) (hl : LetsOut Q → LetsOut Q')
    (hh : o.wp P a w K Q) : o.wp P a w K' Q' := by
  unfold Oper.wp at *
  generalize (execOp a.eval o).run P w = r at *
  cases r with
  | ok n w' =>
    cases n <;> simp only [Oper.upon] at hh ⊢ <;>
      first
        | exact h _ _ hh
        | exact Calls.mono hh (fun e w'' he => by
            cases e <;> first
              | exact h _ _ he
              | exact hp _ _ _ he
              | exact hl he)
        | exact Rows.mono hh (fun _ _ he => h _ _ he)
  | halt x w' =>
    cases x <;> simp only [Oper.upon] at hh ⊢ <;> first
      | exact hp _ _ _ hh
      | exact hh
theorem wanted_free {o : Oper} (h : o.guard = none) (f : Nat → Option Bool) : Region.wanted o f = true := by unfold Region.wanted; rw [h]
theorem wpAny_snoc {L : List Oper} {st : Oper} {Q : Exit → Act → World → Prop} (hU : usedB md L st = true) (hg : st.guard = none) (hgs : ∀ o ∈ L, o.guard = none) :
    ∀ (fuel : Nat) (listed listed0 : Array Bool) (a : Act) (w : World), Tw L st md listed listed0 →
    wpAny P md L.toArray (Exit.then (wpList P (L ++ [st]).toArray Q [st]) Q) fuel listed0 a w → wpAny P md (L ++ [st]).toArray Q (fuel + 1) listed a w := by
  have lo : LetsOut (Exit.then (wpList P (L ++ [st]).toArray Q [st]) Q) → LetsOut Q := fun ⟨a, w, h⟩ => ⟨a, w, h⟩
  have fin : ∀ (fuel : Nat) (listed listed0 : Array Bool) (a : Act) (w : World), Tw L st md listed listed0 → (∀ j, j < L.length → listed0.getD j true = true) → wpList P (L ++ [st]).toArray Q [st] a w →
      wpOp P (L ++ [st]).toArray Q L.length (wpAny P md (L ++ [st]).toArray Q fuel (listed.setIfInBounds L.length true)) a w := by
    intro fuel listed listed0 a w t hall h
    have hnone : Region.ready md (L ++ [st]).toArray (listed.setIfInBounds L.length true) = [] := by
      apply List.eq_nil_iff_forall_not_mem.2
      intro j hj
      have hj0 := (mem_ready.1 hj).1
      by_cases hjl : j = L.length
      · subst hjl; simp [t.s] at hj0
      · have hlt : j < L.length := by
          obtain ⟨o, ho, _⟩ := (mem_ready.1 hj).2
          have := (Array.getElem?_eq_some_iff.1 ho).1; simp at this; omega
        rw [getD_set_ne true (by omega), t.same j hlt, hall j hlt] at hj0; cases hj0
    have hK : ∀ a w, Q .normal a w → wpAny P md (L ++ [st]).toArray Q fuel (listed.setIfInBounds L.length true) a w := by
      intro a w hq
      cases fuel with
      | zero => exact ⟨hnone, hq⟩
      | succ n => exact ⟨fun _ => hq, fun j hj => by rw [hnone] at hj; cases hj⟩
    unfold wpList at h
    unfold wpOp
    simp only [List.getElem?_toArray, List.getElem?_append_right (Nat.le_refl _), Nat.sub_self, List.getElem?_cons_zero]
    simp only [wanted_free hg, if_true] at h ⊢
    rcases h with h | h
    · exact .inl (Oper.wp_mono (fun a w h => hK a w h) h)
    · exact .inr h
  intro fuel
  induction fuel with
  | zero =>
    intro listed listed0 a w t h
    have hall := t.all hU h.1
    refine ⟨fun h0 => ?_, fun i hi => ?_⟩
    · have := t.ready_last hU hall; rw [h0] at this; cases this
    · by_cases hil : i < L.length
      · have := t.ready hU hil hi; rw [h.1] at this; cases this
      · have hi2 : i = L.length := by
          obtain ⟨o, ho, _⟩ := (mem_ready.1 hi).2
          have := (Array.getElem?_eq_some_iff.1 ho).1; simp at this; omega
        subst hi2
        exact fin 0 _ _ _ _ t hall h.2
  | succ fuel ih =>
    intro listed listed0 a w t h
    refine ⟨fun h0 => ?_, fun i hi => ?_⟩
    · have hr0 : Region.ready md L.toArray listed0 = [] := by
        apply List.eq_nil_iff_forall_not_mem.2
        intro j hj
        obtain ⟨j0, o, ho, hall⟩ := mem_ready.1 hj
        have hjl : j < L.length := by have := (Array.getElem?_eq_some_iff.1 ho).1; simpa using this
        have : j ∈ Region.ready md (L ++ [st]).toArray listed := by
          rw [mem_ready]
          have ho2 : (L ++ [st])[j]? = some o := by rw [List.getElem?_append_left hjl]; simpa using ho
          refine ⟨by rw [t.same j hjl]; exact j0, o, by simpa using ho2, fun e he hb => ?_⟩
          have h2 := usedB_back hU ho2 e he
          have h3 := hall e he hb
          rw [← getD_tf (by rw [t.s]; omega), t.same e.on (by omega), getD_tf (by rw [t.s0]; omega)]
          exact h3
        rw [h0] at this; cases this
      have := t.ready_last hU (t.all hU hr0); rw [h0] at this; cases this
    · by_cases hil : i < L.length
      · have hi0 := t.ready hU hil hi
        have h1 := h.2 i hi0
        have t' := t.step hU hil hi
        obtain ⟨hun, o, ho, _⟩ := mem_ready.1 hi0
        have hoL : o ∈ L := by
          have : L[i]? = some o := by simpa using ho
          exact List.mem_of_getElem? this
        have ho2 : (L ++ [st]).toArray[i]? = some o := by
          have : (L ++ [st])[i]? = some o := by rw [List.getElem?_append_left hil]; simpa using ho
          simpa using this
        unfold wpOp at h1 ⊢
        simp only [ho, ho2, wanted_free (hgs o hoL), if_true] at h1 ⊢
        rcases h1 with h1 | h1
        · exact .inl (Oper.wp_mono2 (fun a w h => ih _ _ _ _ t' h) (fun _ _ _ h => h) lo h1)
        · exact .inr ⟨h1.1, lo h1.2⟩
      · have hi2 : i = L.length := by
          obtain ⟨o, ho, _⟩ := (mem_ready.1 hi).2
          have := (Array.getElem?_eq_some_iff.1 ho).1; simp at this; omega
        subst hi2
        have hall := t.of_last hU hi
        have hr0 : Region.ready md L.toArray listed0 = [] := by
          apply List.eq_nil_iff_forall_not_mem.2
          intro j hj
          obtain ⟨j0, o, ho, _⟩ := mem_ready.1 hj
          have hjl : j < L.length := by have := (Array.getElem?_eq_some_iff.1 ho).1; simpa using this
          rw [hall j hjl] at j0; cases j0
        exact fin (fuel + 1) _ _ _ _ t hall (h.1 hr0)
theorem tw_start (L : List Oper) (st : Oper) : Tw L st md (Array.replicate (L ++ [st]).toArray.size false) (Array.replicate L.toArray.size false) := by
  refine ⟨by simp, by simp, fun j hj => ?_, ?_, fun j o hj hl => ?_⟩
  · simp [hj, Nat.lt_succ_of_lt hj]
  · simp
  · simp [Nat.lt_succ_of_lt hj] at hl
/-- the region's last two operations wait for all others -/
theorem wp_region_tail2 {id : Nat} {Q : Exit → Act → World → Prop} {a : Act} {w : World} {l : List Oper} {s1 s2 : Oper} (hm : P.follows .mixedOrders = true) (hB : Region.lexB .any l.toArray = true) (hU1 : usedB .any l s1 = true) (hU2 : usedB .any (l ++ [s1]) s2 = true) (hg : (l ++ [s1] ++ [s2]).all (fun o => o.guard.isNone) = true)
    (h : wpKept P l.toArray (fun w' => Below w.heap.size w w') (fun a' B => ∀ ρ w', Fits w ρ B w' → wpList P (l ++ [s1] ++ [s2]).toArray Q [s1, s2] (a' ρ) w') l 0 (fun _ => a) (fun _ => none)) : (Code.region id (l ++ [s1] ++ [s2]).toArray true).wp P Q a w := by
  simp only [Region.lexB, Bool.and_eq_true] at hB
  have hgs : ∀ o ∈ l ++ [s1] ++ [s2], o.guard = none := fun o ho => by
    have := (List.all_eq_true.1 hg) o ho
    simpa using this
  refine wp_region_any hm ?_
  have hf : Fits w (fun _ => 0) (fun _ => none) { w with drawn := w.drawn + 1 } :=
    ⟨⟨rfl, rfl, rfl, Nat.le_refl _, fun _ _ => rfl⟩, fun _ _ _ h => (by cases h), fun _ _ h => absurd rfl h⟩
  have h1 := wpAnyK_lex (C := fun w' => Below w.heap.size w w') (md := .any) hB.1 l 0 (Array.replicate l.toArray.size false) (fun _ => a) (fun _ => none) (by simp) (by simpa using hB.2) h
  have g1 : s1.guard = none := hgs s1 (by simp)
  have g2 : s2.guard = none := hgs s2 (by simp)
  have h2 := wpAny_of_kept (P := P) (md := .any) (Q := fun a' B => ∀ ρ w', Fits w ρ B w' → wpList P (l ++ [s1] ++ [s2]).toArray Q [s1, s2] (a' ρ) w') (Q' := Exit.then (wpList P (l ++ [s1]).toArray (Exit.then (wpList P (l ++ [s1] ++ [s2]).toArray Q [s2]) Q) [s1]) (Exit.then (wpList P (l ++ [s1] ++ [s2]).toArray Q [s2]) Q)) (fun a' B ρ w' hf' h' => by
    have h3 : wpList P (l ++ [s1] ++ [s2]).toArray Q [s1, s2] (a' ρ) w' := h' ρ w' hf'
    show wpList P (l ++ [s1]).toArray _ [s1] (a' ρ) w'
    rw [wpList] at h3 ⊢
    simp only [wanted_free g1, if_true] at h3 ⊢
    rcases h3 with h3 | h3
    · exact .inl (Oper.wp_mono2 (fun a w h => h) (fun _ _ _ h => h) (fun ⟨a, w, h⟩ => ⟨a, w, h⟩) h3)
    · exact .inr ⟨h3.1, (fun ⟨a, w, h⟩ => ⟨a, w, h⟩) h3.2⟩) l.toArray.size _ (fun _ => a) (fun _ => none) (fun _ => 0) _ hf (fun _ _ _ _ => rfl) (by simpa using h1)
  have h3 := wpAny_snoc (P := P) (md := .any) hU1 g1 (fun o ho => hgs o (by simp [ho])) _ _ _ a _ (tw_start l s1) h2
  have h4 := wpAny_snoc (P := P) (md := .any) hU2 g2 (fun o ho => hgs o (List.mem_append_left _ ho)) _ _ _ a _ (tw_start (l ++ [s1]) s2) h3
  simpa using h4
theorem wp_region_tail2D {id : Nat} {Q : Exit → Act → World → Prop} {a : Act} {w : World} {L : List Oper} (hne : L ≠ []) (hne2 : L.dropLast ≠ []) (hm : P.follows .mixedOrders = true) (hB : Region.lexB .any L.dropLast.dropLast.toArray = true) (hU1 : usedB .any L.dropLast.dropLast (L.dropLast.getLast hne2) = true) (hU2 : usedB .any L.dropLast (L.getLast hne) = true) (hg : L.all (fun o => o.guard.isNone) = true)
    (h : wpKept P L.dropLast.dropLast.toArray (fun w' => Below w.heap.size w w') (fun a' B => ∀ ρ w', Fits w ρ B w' → wpList P L.toArray Q [L.dropLast.getLast hne2, L.getLast hne] (a' ρ) w') L.dropLast.dropLast 0 (fun _ => a) (fun _ => none)) : (Code.region id L.toArray true).wp P Q a w := by
  have e1 : L.dropLast.dropLast ++ [L.dropLast.getLast hne2] = L.dropLast := List.dropLast_concat_getLast hne2
  have e2 : L.dropLast ++ [L.getLast hne] = L := List.dropLast_concat_getLast hne
  have := wp_region_tail2 (P := P) (id := id) (Q := Q) (a := a) (w := w) (l := L.dropLast.dropLast) (s1 := L.dropLast.getLast hne2) (s2 := L.getLast hne) hm hB hU1 (by rw [e1]; exact hU2) (by rw [e1, e2]; exact hg) (by rw [e1, e2]; exact h)
  rwa [e1, e2] at this
end
end Go.Proofs.YtgnppdkeiihlfaaGreatDoor
namespace Go.Proofs.YtgnppdkeiihlfaaGreatDoor
open Go.RowKit
section
variable {P : Program} {md : Region.Mode}
theorem wpAny_more {ops : Array Oper} {Q : Exit → Act → World → Prop} : ∀ (fuel : Nat) (listed : Array Bool) (a : Act) (w : World), wpAny P md ops Q fuel listed a w → wpAny P md ops Q (fuel + 1) listed a w
  | 0, _, _, _, h => ⟨fun _ => h.2, fun i hi => by rw [h.1] at hi; cases hi⟩
  | n + 1, _, _, _, h => ⟨h.1, fun i hi => wpOp_mono (fun a' w' h' => wpAny_more n _ a' w' h') (h.2 i hi)⟩
theorem wpAny_more' {ops : Array Oper} {Q : Exit → Act → World → Prop} {listed : Array Bool} {a : Act} {w : World} {m : Nat} : ∀ (k : Nat), wpAny P md ops Q m listed a w → wpAny P md ops Q (k + m) listed a w
  | 0, h => by rw [Nat.zero_add]; exact h
  | k + 1, h => by rw [show k + 1 + m = (k + m) + 1 by omega]; exact wpAny_more _ _ _ _ (wpAny_more' k h)
def tailB (md : Region.Mode) (n : Nat) (T : List Oper) : Bool := T.all (fun o => o.after.any (fun e => Region.binds md e && decide (n ≤ e.on)))
theorem app_getD {x : Array Bool} {m j : Nat} (d : Bool) (h : j < x.size) : (x ++ Array.replicate m false).getD j d = x.getD j d := by
  rw [Array.getD_eq_getD_getElem?, Array.getD_eq_getD_getElem?, Array.getElem?_append_left h]
theorem app_getD2 {x : Array Bool} {m j : Nat} (h : x.size ≤ j) : (x ++ Array.replicate m false).getD j false = false := by
  rw [Array.getD_eq_getD_getElem?, Array.getElem?_append_right h, Array.getElem?_replicate]
  split <;> rfl
theorem app_set {x : Array Bool} {m j : Nat} (h : j < x.size) : (x ++ Array.replicate m false).setIfInBounds j true = x.setIfInBounds j true ++ Array.replicate m false := by
  apply Array.ext_getElem?
  intro k
  by_cases hk : j = k
  · subst hk
    rw [Array.getElem?_append_left (by simpa using h), Array.getElem?_setIfInBounds_self, Array.getElem?_setIfInBounds_self]
    simp [h, Nat.lt_add_right]
  · rw [Array.getElem?_setIfInBounds_ne hk]
    by_cases h2 : k < x.size
    · rw [Array.getElem?_append_left h2, Array.getElem?_append_left (by simpa using h2), Array.getElem?_setIfInBounds_ne hk]
    · rw [Array.getElem?_append_right (by omega), Array.getElem?_append_right (by simp; omega)]
      simp
section
variable {L T : List Oper} {st : Oper} {listed listed0 : Array Bool}
theorem pn_get {i : Nat} (hi : i < L.length + 1) : (L ++ st :: T)[i]? = (L ++ [st])[i]? := by
  rw [show L ++ st :: T = (L ++ [st]) ++ T by simp, List.getElem?_append_left (by simpa using hi)]
theorem pn_ready (t : Tw L st md listed listed0) (hU : usedB md L st = true) {i : Nat} (hi : i < L.length + 1) (h : i ∈ Region.ready md (L ++ st :: T).toArray (listed ++ Array.replicate T.length false)) : i ∈ Region.ready md (L ++ [st]).toArray listed := by
  obtain ⟨h0, o, ho, hall⟩ := mem_ready.1 h
  have ho1 : (L ++ st :: T)[i]? = some o := by simpa using ho
  rw [pn_get hi] at ho1
  rw [mem_ready]
  refine ⟨by rw [app_getD _ (by rw [t.s]; exact hi)] at h0; exact h0, o, by simpa using ho1, fun e he hb => ?_⟩
  have h2 := usedB_back hU ho1 e he
  have h3 := hall e he hb
  rwa [app_getD _ (by rw [t.s]; omega)] at h3
theorem pn_ready' (t : Tw L st md listed listed0) (hU : usedB md L st = true) {i : Nat} (hi : i < L.length + 1) (h : i ∈ Region.ready md (L ++ [st]).toArray listed) : i ∈ Region.ready md (L ++ st :: T).toArray (listed ++ Array.replicate T.length false) := by
  obtain ⟨h0, o, ho, hall⟩ := mem_ready.1 h
  have ho1 : (L ++ [st])[i]? = some o := by simpa using ho
  rw [mem_ready]
  refine ⟨by rw [app_getD _ (by rw [t.s]; exact hi)]; exact h0, o, by
    have := (pn_get (L := L) (st := st) (T := T) hi).trans ho1
    simpa using this, fun e he hb => ?_⟩
  have h2 := usedB_back hU ho1 e he
  have h3 := hall e he hb
  rwa [app_getD _ (by rw [t.s]; omega)]
theorem pn_tail (t : Tw L st md listed listed0) (hT : tailB md L.length T = true) {i : Nat} (hi : L.length + 1 ≤ i) : i ∉ Region.ready md (L ++ st :: T).toArray (listed ++ Array.replicate T.length false) := by
  intro h
  obtain ⟨h0, o, ho, hall⟩ := mem_ready.1 h
  have ho1 : (L ++ st :: T)[i]? = some o := by simpa using ho
  rw [show L ++ st :: T = (L ++ [st]) ++ T by simp, List.getElem?_append_right (by simpa using hi)] at ho1
  have hm := List.mem_of_getElem? ho1
  have h1 := (List.all_eq_true.1 hT) o hm
  rw [Array.any_eq_true] at h1
  obtain ⟨m, hm2, he⟩ := h1
  simp only [Bool.and_eq_true, decide_eq_true_eq] at he
  have h3 := hall _ (Array.getElem_mem hm2) he.1
  by_cases he2 : o.after[m].on < L.length + 1
  · have : o.after[m].on = L.length := by omega
    rw [this, app_getD _ (by rw [t.s]; omega), ← getD_tf (by rw [t.s]; omega), t.last] at h3
    cases h3
  · rw [app_getD2 (by rw [t.s]; omega)] at h3
    cases h3
theorem pn_end (t : Tw L st md listed listed0) (hall : ∀ j, j < L.length → listed0.getD j true = true) : (listed ++ Array.replicate T.length false).setIfInBounds L.length true = Array.replicate (L.length + 1) true ++ Array.replicate T.length false := by
  rw [app_set (by rw [t.s]; omega)]
  congr 1
  apply Array.ext
  · simp [t.s]
  · intro i h1 h2
    have h1' : i < listed.size := by simpa using h1
    have h1'' : i < L.length + 1 := by rw [t.s] at h1'; exact h1'
    rw [Array.getElem_replicate]
    by_cases hi : L.length = i
    · subst hi
      rw [Array.getElem_setIfInBounds_self]
    · rw [Array.getElem_setIfInBounds_ne h1' hi]
      have h3 := (t.same i (by omega)).trans (hall i (by omega))
      simpa [h1'] using h3
theorem wpAny_pinch {Q : Exit → Act → World → Prop} (hU : usedB md L st = true) (hT : tailB md L.length T = true) (hg : st.guard = none) (hgs : ∀ o ∈ L, o.guard = none) :
    ∀ (fuel : Nat) (listed listed0 : Array Bool) (a : Act) (w : World), Tw L st md listed listed0 →
    wpAny P md L.toArray (Exit.then (wpList P (L ++ st :: T).toArray (Exit.then (wpAny P md (L ++ st :: T).toArray Q T.length (Array.replicate (L.length + 1) true ++ Array.replicate T.length false)) Q) [st]) Q) fuel listed0 a w →
    wpAny P md (L ++ st :: T).toArray Q (fuel + T.length + 1) (listed ++ Array.replicate T.length false) a w := by
  have lo : LetsOut (Exit.then (wpAny P md (L ++ st :: T).toArray Q T.length (Array.replicate (L.length + 1) true ++ Array.replicate T.length false)) Q) → LetsOut Q := fun ⟨a, w, h⟩ => ⟨a, w, h⟩
  have lo2 : LetsOut (Exit.then (wpList P (L ++ st :: T).toArray (Exit.then (wpAny P md (L ++ st :: T).toArray Q T.length (Array.replicate (L.length + 1) true ++ Array.replicate T.length false)) Q) [st]) Q) → LetsOut Q := fun ⟨a, w, h⟩ => ⟨a, w, h⟩
  have fin : ∀ (fuel : Nat) (listed listed0 : Array Bool) (a : Act) (w : World), Tw L st md listed listed0 → (∀ j, j < L.length → listed0.getD j true = true) → wpList P (L ++ st :: T).toArray (Exit.then (wpAny P md (L ++ st :: T).toArray Q T.length (Array.replicate (L.length + 1) true ++ Array.replicate T.length false)) Q) [st] a w →
      wpOp P (L ++ st :: T).toArray Q L.length (wpAny P md (L ++ st :: T).toArray Q (fuel + T.length) ((listed ++ Array.replicate T.length false).setIfInBounds L.length true)) a w := by
    intro fuel listed listed0 a w t hall h
    rw [pn_end t hall]
    unfold wpList at h
    unfold wpOp
    simp only [List.getElem?_toArray, List.getElem?_append_right (Nat.le_refl _), Nat.sub_self, List.getElem?_cons_zero]
    simp only [wanted_free hg, if_true] at h ⊢
    rcases h with h | h
    · exact .inl (Oper.wp_mono2 (fun a w h => wpAny_more' fuel h) (fun _ _ _ h => h) lo h)
    · exact .inr ⟨h.1, lo h.2⟩
  intro fuel
  induction fuel with
  | zero =>
    intro listed listed0 a w t h
    have hall := t.all hU h.1
    refine ⟨fun h0 => ?_, fun i hi => ?_⟩
    · have := pn_ready' (T := T) t hU (by omega) (t.ready_last hU hall); rw [h0] at this; cases this
    · rcases Nat.lt_trichotomy i L.length with hil | hil | hil
      · have := t.ready hU hil (pn_ready t hU (by omega) hi); rw [h.1] at this; cases this
      · subst hil
        exact fin 0 _ _ _ _ t hall h.2
      · exact absurd hi (pn_tail t hT (by omega))
  | succ fuel ih =>
    intro listed listed0 a w t h
    refine ⟨fun h0 => ?_, fun i hi => ?_⟩
    · have hr0 : Region.ready md L.toArray listed0 = [] := by
        apply List.eq_nil_iff_forall_not_mem.2
        intro j hj
        obtain ⟨j0, o, ho, hall⟩ := mem_ready.1 hj
        have hjl : j < L.length := by have := (Array.getElem?_eq_some_iff.1 ho).1; simpa using this
        have : j ∈ Region.ready md (L ++ [st]).toArray listed := by
          rw [mem_ready]
          have ho2 : (L ++ [st])[j]? = some o := by rw [List.getElem?_append_left hjl]; simpa using ho
          refine ⟨by rw [t.same j hjl]; exact j0, o, by simpa using ho2, fun e he hb => ?_⟩
          have h2 := usedB_back hU ho2 e he
          have h3 := hall e he hb
          rw [← getD_tf (by rw [t.s]; omega), t.same e.on (by omega), getD_tf (by rw [t.s0]; omega)]
          exact h3
        have := pn_ready' (T := T) t hU (by omega) this
        rw [h0] at this; cases this
      have := pn_ready' (T := T) t hU (by omega) (t.ready_last hU (t.all hU hr0)); rw [h0] at this; cases this
    · rcases Nat.lt_trichotomy i L.length with hil | hil | hil
      · have hi1 := pn_ready t hU (by omega) hi
        have hi0 := t.ready hU hil hi1
        have h1 := h.2 i hi0
        have t' := t.step hU hil hi1
        obtain ⟨hun, o, ho, _⟩ := mem_ready.1 hi0
        have hoL : o ∈ L := by
          have : L[i]? = some o := by simpa using ho
          exact List.mem_of_getElem? this
        have ho2 : (L ++ st :: T).toArray[i]? = some o := by
          have : (L ++ st :: T)[i]? = some o := by rw [List.getElem?_append_left hil]; simpa using ho
          simpa using this
        rw [app_set (by rw [t.s]; omega), show fuel + 1 + T.length = fuel + T.length + 1 by omega]
        unfold wpOp at h1 ⊢
        simp only [ho, ho2, wanted_free (hgs o hoL), if_true] at h1 ⊢
        rcases h1 with h1 | h1
        · exact .inl (Oper.wp_mono2 (fun a w h => ih _ _ _ _ t' h) (fun _ _ _ h => h) lo2 h1)
        · exact .inr ⟨h1.1, lo2 h1.2⟩
      · subst hil
        have hall := t.of_last hU (pn_ready t hU (by omega) hi)
        have hr0 : Region.ready md L.toArray listed0 = [] := by
          apply List.eq_nil_iff_forall_not_mem.2
          intro j hj
          obtain ⟨j0, o, ho, _⟩ := mem_ready.1 hj
          have hjl : j < L.length := by have := (Array.getElem?_eq_some_iff.1 ho).1; simpa using this
          rw [hall j hjl] at j0; cases j0
        have := fin (fuel + 1) _ _ _ _ t hall (h.1 hr0)
        exact this
      · exact absurd hi (pn_tail t hT (by omega))
end
/-- the walk: the operations ahead of number n in the order of the text, then n itself by a plain walk, then the rest in the order of the text -/
theorem wp_region_pinch {id : Nat} {Q : Exit → Act → World → Prop} {a : Act} {w : World} {L T : List Oper} {st : Oper} (hm : P.follows .mixedOrders = true) (hB : Region.lexB .any L.toArray = true) (hU : usedB .any L st = true) (hT : tailB .any L.length T = true) (hg : (L ++ [st]).all (fun o => o.guard.isNone) = true)
    (hs : Region.noSelect (L ++ st :: T).toArray = true) (hX : Region.lexFrom .any (L ++ st :: T).toArray T.length (L.length + 1) (Array.replicate (L.length + 1) true ++ Array.replicate T.length false) = true)
    (h : wpKept P L.toArray (fun w' => Below w.heap.size w w') (fun a' B => ∀ ρ w', Fits w ρ B w' → wpList P (L ++ st :: T).toArray (Exit.then (fun a2 w2 => wpKept P (L ++ st :: T).toArray (fun w3 => Below w2.heap.size w2 w3) (fun a3 B => ∀ ρ w3, Fits w2 ρ B w3 → Q .normal (a3 ρ) w3) T (L.length + 1) (fun _ => a2) (fun _ => none)) Q) [st] (a' ρ) w') L 0 (fun _ => a) (fun _ => none)) : (Code.region id (L ++ st :: T).toArray true).wp P Q a w := by
  simp only [Region.lexB, Bool.and_eq_true] at hB
  have hgs : ∀ o ∈ L ++ [st], o.guard = none := fun o ho => by
    have := (List.all_eq_true.1 hg) o ho
    simpa using this
  refine wp_region_any hm ?_
  have hf : Fits w (fun _ => 0) (fun _ => none) { w with drawn := w.drawn + 1 } :=
    ⟨⟨rfl, rfl, rfl, Nat.le_refl _, fun _ _ => rfl⟩, fun _ _ _ h => (by cases h), fun _ _ h => absurd rfl h⟩
  have g1 : st.guard = none := hgs st (by simp)
  have h1 := wpAnyK_lex (C := fun w' => Below w.heap.size w w') (md := .any) hB.1 L 0 (Array.replicate L.toArray.size false) (fun _ => a) (fun _ => none) (by simp) (by simpa using hB.2) h
  have h2 := wpAny_of_kept (P := P) (md := .any) (Q := fun a' B => ∀ ρ w', Fits w ρ B w' → wpList P (L ++ st :: T).toArray (Exit.then (fun a2 w2 => wpKept P (L ++ st :: T).toArray (fun w3 => Below w2.heap.size w2 w3) (fun a3 B => ∀ ρ w3, Fits w2 ρ B w3 → Q .normal (a3 ρ) w3) T (L.length + 1) (fun _ => a2) (fun _ => none)) Q) [st] (a' ρ) w') (Q' := Exit.then (wpList P (L ++ st :: T).toArray (Exit.then (wpAny P .any (L ++ st :: T).toArray Q T.length (Array.replicate (L.length + 1) true ++ Array.replicate T.length false)) Q) [st]) Q) (fun a' B ρ w' hf' h' => by
    have h3 := h' ρ w' hf'
    show wpList P (L ++ st :: T).toArray _ [st] (a' ρ) w'
    rw [wpList] at h3 ⊢
    simp only [wanted_free g1, if_true] at h3 ⊢
    rcases h3 with h3 | h3
    · refine .inl (Oper.wp_mono2 (fun a2 w2 h => ?_) (fun _ _ _ h => h) (fun ⟨a, w, h⟩ => ⟨a, w, h⟩) h3)
      have k1 := wpAnyK_lex (C := fun w3 => Below w2.heap.size w2 w3) (md := .any) hs T (L.length + 1) (Array.replicate (L.length + 1) true ++ Array.replicate T.length false) (fun _ => a2) (fun _ => none) (fun j => by
        rw [show L ++ st :: T = (L ++ [st]) ++ T by simp]
        simp only [List.getElem?_toArray]
        rw [List.getElem?_append_right (by simp)]
        simp) hX h
      have hf2 : Fits w2 (fun _ => 0) (fun _ => none) w2 := ⟨Below.refl _ _, fun _ _ _ h => (by cases h), fun _ _ h => absurd rfl h⟩
      exact wpAny_of_kept (P := P) (md := .any) (Q' := Q) (fun a' B ρ w' hf' h' => h' ρ w' hf') _ _ _ _ (fun _ => 0) _ hf2 (fun _ _ _ _ => rfl) k1
    · exact .inr ⟨h3.1, (fun ⟨a, w, h⟩ => ⟨a, w, h⟩) h3.2⟩) L.toArray.size _ (fun _ => a) (fun _ => none) (fun _ => 0) _ hf (fun _ _ _ _ => rfl) (by simpa using h1)
  have h3 := wpAny_pinch (P := P) (md := .any) (T := T) hU hT g1 (fun o ho => hgs o (by simp [ho])) _ _ _ a _ (tw_start L st) h2
  have e1 : (Array.replicate (L ++ [st]).toArray.size false ++ Array.replicate T.length false : Array Bool) = Array.replicate (L ++ st :: T).toArray.size false := by
    rw [Array.replicate_append_replicate]
    congr 1
    simp; omega
  rw [e1] at h3
  have e2 : L.toArray.size + T.length + 1 = (L ++ st :: T).toArray.size := by simp; omega
  rw [e2] at h3
  exact h3
theorem wp_region_pinchD {id : Nat} {Q : Exit → Act → World → Prop} {a : Act} {w : World} {l : List Oper} (n : Nat) (L T : List Oper) (st : Oper) (he : l = L ++ st :: T) (hm : P.follows .mixedOrders = true) (hB : Region.lexB .any L.toArray = true) (hU : usedB .any L st = true) (hT : tailB .any L.length T = true) (hg : (L ++ [st]).all (fun o => o.guard.isNone) = true)
    (hs : Region.noSelect l.toArray = true) (hX : Region.lexFrom .any l.toArray T.length (L.length + 1) (Array.replicate (L.length + 1) true ++ Array.replicate T.length false) = true) (hn : L.length + 1 = n)
    (h : wpKept P L.toArray (fun w' => Below w.heap.size w w') (fun a' B => ∀ ρ w', Fits w ρ B w' → wpList P l.toArray (Exit.then (fun a2 w2 => wpKept P l.toArray (fun w3 => Below w2.heap.size w2 w3) (fun a3 B => ∀ ρ w3, Fits w2 ρ B w3 → Q .normal (a3 ρ) w3) T n (fun _ => a2) (fun _ => none)) Q) [st] (a' ρ) w') L 0 (fun _ => a) (fun _ => none)) : (Code.region id l.toArray true).wp P Q a w := by
  subst he hn
  exact wp_region_pinch hm hB hU hT hg hs hX h
theorem wp_region_pinchN {id : Nat} {Q : Exit → Act → World → Prop} {a : Act} {w : World} {l : List Oper} (n : Nat) (hn : n < l.length) (hm : P.follows .mixedOrders = true) (hB : Region.lexB .any (l.take n).toArray = true) (hU : usedB .any (l.take n) (l[n]'hn) = true) (hT : tailB .any n (l.drop (n + 1)) = true) (hg : (l.take n ++ [l[n]'hn]).all (fun o => o.guard.isNone) = true)
    (hs : Region.noSelect l.toArray = true) (hX : Region.lexFrom .any l.toArray (l.drop (n + 1)).length (n + 1) (Array.replicate (n + 1) true ++ Array.replicate (l.drop (n + 1)).length false) = true)
    (h : wpKept P (l.take n).toArray (fun w' => Below w.heap.size w w') (fun a' B => ∀ ρ w', Fits w ρ B w' → wpList P l.toArray (Exit.then (fun a2 w2 => wpKept P l.toArray (fun w3 => Below w2.heap.size w2 w3) (fun a3 B => ∀ ρ w3, Fits w2 ρ B w3 → Q .normal (a3 ρ) w3) (l.drop (n + 1)) (n + 1) (fun _ => a2) (fun _ => none)) Q) [l[n]'hn] (a' ρ) w') (l.take n) 0 (fun _ => a) (fun _ => none)) : (Code.region id l.toArray true).wp P Q a w := by
  have hl : (l.take n).length = n := by rw [List.length_take]; omega
  exact wp_region_pinchD (P := P) (n + 1) (l.take n) (l.drop (n + 1)) (l[n]'hn) (by rw [← List.drop_eq_getElem_cons hn, List.take_append_drop]) hm hB hU (by rw [hl]; exact hT) hg hs (by rw [hl]; exact hX) (by rw [hl]) h
theorem wpList_call_end {ops : Array Oper} {K : Act → World → Prop} {Q : Exit → Act → World → Prop} {st : Oper} {a : Act} {w : World} {f : FuncId} {args : Array Value} {R : Ending → World → Prop} (hg : st.guard = none) (hr : (execOp a.eval st).run P w = .ok (.enter f args) w) (hc : Calls P f args w R)
    (h : ∀ e w', R e w' → ∃ v, e = .returned v ∧ K (a.put st.dst v) w') : wpList P ops (Exit.then K Q) [st] a w := by
  unfold wpList
  simp only [wanted_free hg, if_true]
  refine .inl ?_
  unfold Oper.wp
  rw [hr]
  refine hc.mono fun e w' hR => ?_
  obtain ⟨v, rfl, hK⟩ := h e w' hR
  exact hK
end
end Go.Proofs.YtgnppdkeiihlfaaGreatDoor
namespace Go.Proofs.YtgnppdkeiihlfaaGreatDoor
open Go.RowKit
/-- the frame, as a function of what the operations with fresh results yield -/
abbrev SV := (Nat → Value) → Act
/-- what is known of a fresh result, in each world -/
abbrev BV := Nat → Option (World → Value → Prop)
inductive OutV where
  | val (v : Value)
  | new (R : World → Value → Prop)
def OutV.at (i : Nat) (ρ : Nat → Value) : OutV → Value
  | .val v => v
  | .new _ => ρ i
def OutV.bx (i : Nat) (B : BV) : OutV → BV
  | .val _ => B
  | .new R => fun k => if k = i then some R else B k
def updV (ρ : Nat → Value) (i : Nat) (v : Value) : Nat → Value := fun k => if k = i then v else ρ k
def valUpon (P : Program) (w : World) (v : Value) : Result Next → Prop
  | .ok (.value u) w' => w' = w ∧ u = v
  | .ok .skip w' => w' = w ∧ v = undef
  | .ok (.enter f args) w' => w' = w ∧ Calls P f args w (fun e w'' => e = .returned v ∧ Below w.heap.size w w'')
  | _ => False
def newUpon (P : Program) (w : World) (R : World → Value → Prop) : Result Next → Prop
  | .ok (.value u) w' => Below w.heap.size w w' ∧ R w' u
  | .ok (.enter f args) w' => w' = w ∧ Calls P f args w (fun e w'' => ∃ u, e = .returned u ∧ Below w.heap.size w w'' ∧ R w'' u)
  | _ => False
section
variable {P : Program} {ops : Array Oper} {md : Region.Mode} {C : World → Prop}
def YieldsV (P : Program) (ops : Array Oper) (C : World → Prop) (o : Oper) (a : SV) : OutV → Prop
  | .val v => (∀ ρ, Region.wanted o (yielded ops (a ρ).tmps) = true ∧ ∀ w, C w → valUpon P w v ((execOp (a ρ).eval o).run P w)) ∨ ((∀ ρ, Region.wanted o (yielded ops (a ρ).tmps) = false) ∧ v = undef)
  | .new R => (∀ w w' u, R w u → Below w.heap.size w w' → R w' u) ∧ ∀ ρ, Region.wanted o (yielded ops (a ρ).tmps) = true ∧ ∀ w, C w → newUpon P w R ((execOp (a ρ).eval o).run P w)
theorem YieldsV.of_same {o : Oper} {x : OutV} {a a' : SV} (hy : YieldsV P ops C o a x) (he : ∀ ρ, execOp (a' ρ).eval o = execOp (a ρ).eval o)
    (hw : ∀ ρ, Region.wanted o (yielded ops (a' ρ).tmps) = Region.wanted o (yielded ops (a ρ).tmps)) : YieldsV P ops C o a' x := by
  cases x <;> simp only [YieldsV, he, hw] at * <;> exact hy
def vOp (P : Program) (ops : Array Oper) (C : World → Prop) (i : Nat) (K : SV → BV → Prop) (a : SV) (B : BV) : Prop :=
  match ops[i]? with
  | none => K a B
  | some o => ∃ x : OutV, YieldsV P ops C o a x ∧ K (fun ρ => (a ρ).put o.dst (x.at i ρ)) (x.bx i B)
theorem vOp_mono {i : Nat} {a : SV} {B : BV} {K K' : SV → BV → Prop} (h : ∀ a B, K a B → K' a B) (hh : vOp P ops C i K a B) : vOp P ops C i K' a B := by
  unfold vOp at *
  split
  · exact h _ _ (by simpa [*] using hh)
  · rename_i o ho
    simp only [ho] at hh
    obtain ⟨x, h1, h2⟩ := hh
    exact ⟨x, h1, h _ _ h2⟩
def wpAnyV (P : Program) (md : Region.Mode) (ops : Array Oper) (C : World → Prop) (Q : SV → BV → Prop) : Nat → Array Bool → SV → BV → Prop
  | 0, listed, a, B => Region.ready md ops listed = [] ∧ Q a B
  | fuel + 1, listed, a, B =>
    (Region.ready md ops listed = [] → Q a B) ∧
    ∀ i ∈ Region.ready md ops listed, vOp P ops C i (wpAnyV P md ops C Q fuel (listed.setIfInBounds i true)) a B
theorem bv_move {i j : Nat} (h : i ≠ j) (x y : OutV) (B : BV) : y.bx j (x.bx i B) = x.bx i (y.bx j B) := by
  cases x <;> cases y <;> try rfl
  funext k
  simp only [OutV.bx]
  by_cases h1 : k = j
  · rw [if_pos h1, if_neg (by omega), if_pos h1]
  · rw [if_neg h1]
    by_cases h2 : k = i
    · rw [if_pos h2, if_pos h2]
    · rw [if_neg h2, if_neg h2, if_neg h1]
theorem vOp_put {i j : Nat} {oi oj : Oper} {x : OutV} (hij : i ≠ j) (hj : ops[j]? = some oj) (hap : oi.apart ops oj = true)
    (hsi : ∀ cs b, oi.op ≠ .select cs b) (hsj : ∀ cs b, oj.op ≠ .select cs b) {K : SV → BV → Prop} {a : SV} {B : BV}
    (hy : YieldsV P ops C oi a x) (h : vOp P ops C j K (fun ρ => (a ρ).put oi.dst (x.at i ρ)) (x.bx i B)) :
    vOp P ops C j (fun a' B' => YieldsV P ops C oi a' x ∧ K (fun ρ => (a' ρ).put oi.dst (x.at i ρ)) (x.bx i B')) a B := by
  obtain ⟨h1, h2, h3⟩ := Oper.apart_spec hap
  unfold vOp at *
  simp only [hj] at *
  obtain ⟨y, hy', hK⟩ := h
  refine ⟨y, hy'.of_same (fun ρ => (execOp_put oj hsj (a ρ) oi.dst _ h1).symm) (fun ρ => (wanted_put oj (a ρ) oi.dst _ h1).symm),
    hy.of_same (fun ρ => execOp_put oi hsi (a ρ) oj.dst _ h3) (fun ρ => wanted_put oi (a ρ) oj.dst _ h3), ?_⟩
  have e1 : (fun ρ => ((a ρ).put oj.dst (y.at j ρ)).put oi.dst (x.at i ρ)) = fun ρ => ((a ρ).put oi.dst (x.at i ρ)).put oj.dst (y.at j ρ) := by
    funext ρ; exact (Act.put_comm (a ρ) _ _ h2).symm
  rw [e1, ← bv_move hij]
  exact hK
theorem wpAnyV_first {Q : SV → BV → Prop} {i : Nat} {oi : Oper} {x : OutV} (hi : ops[i]? = some oi) (hsel : ∀ (j : Nat) (o : Oper) cs b, ops[j]? = some o → o.op ≠ .select cs b) :
    ∀ (fuel : Nat) (listed : Array Bool) (a : SV) (B : BV),
      (∀ j oj, ops[j]? = some oj → j ≠ i → listed.getD j true = false → (∀ e ∈ oj.after, Region.binds md e = true → e.on ≠ i) → oi.apart ops oj = true) →
      i ∈ Region.ready md ops listed → YieldsV P ops C oi a x →
      wpAnyV P md ops C Q fuel (listed.setIfInBounds i true) (fun ρ => (a ρ).put oi.dst (x.at i ρ)) (x.bx i B) → wpAnyV P md ops C Q (fuel + 1) listed a B := by
  intro fuel
  induction fuel with
  | zero =>
    intro listed a B _ hr hy H
    refine ⟨fun h => (by rw [h] at hr; cases hr), fun j hj => ?_⟩
    by_cases hji : j = i
    · subst hji; unfold vOp; simp only [hi]; exact ⟨x, hy, H⟩
    · have := ready_mono hj hji
      rw [H.1] at this
      cases this
  | succ fuel ih =>
    intro listed a B hfree hr hy H
    refine ⟨fun h => (by rw [h] at hr; cases hr), fun j hj => ?_⟩
    by_cases hji : j = i
    · subst hji; unfold vOp; simp only [hi]; exact ⟨x, hy, H⟩
    · have h1 := H.2 j (ready_mono hj hji)
      obtain ⟨hjun, oj, hoj, hall⟩ := mem_ready.1 hj
      have hnot : ∀ e ∈ oj.after, Region.binds md e = true → e.on ≠ i := fun e he hb heq => by
        have h1 := hall e he hb
        have h0 := (mem_ready.1 hr).1
        rw [heq] at h1
        rcases Nat.lt_or_ge i listed.size with h' | h'
        · simp [h'] at h0 h1; rw [h0] at h1; cases h1
        · simp [Array.getElem?_eq_none h'] at h1
      have h2 := vOp_put (Ne.symm hji) hoj (hfree j oj hoj hji hjun hnot) (fun cs b => hsel i oi cs b hi) (fun cs b => hsel j oj cs b hoj) hy h1
      have hfree' : ∀ k ok, ops[k]? = some ok → k ≠ i → (listed.setIfInBounds j true).getD k true = false →
          (∀ e ∈ ok.after, Region.binds md e = true → e.on ≠ i) → oi.apart ops ok = true := fun k ok hk hki hun hno => by
        refine hfree k ok hk hki ?_ hno
        by_cases hjk : j = k
        · subst hjk; exact hjun
        · rw [getD_set_ne true hjk] at hun; exact hun
      refine vOp_mono (fun a' B' h3 => ih (listed.setIfInBounds j true) a' B' hfree' (ready_mono hr (Ne.symm hji)) h3.1 ?_) h2
      rw [Array.setIfInBounds_comm _ _ hji]
      exact h3.2
def wpFresh (P : Program) (ops : Array Oper) (C : World → Prop) (Q : SV → BV → Prop) : List Oper → Nat → SV → BV → Prop
  | [], _, a, B => Q a B
  | o :: rest, i, a, B => ∃ x : OutV, YieldsV P ops C o a x ∧ wpFresh P ops C Q rest (i + 1) (fun ρ => (a ρ).put o.dst (x.at i ρ)) (x.bx i B)
theorem wpAnyV_lex {Q : SV → BV → Prop} (hs : Region.noSelect ops = true) : ∀ (l : List Oper) (k : Nat) (listed : Array Bool) (a : SV) (B : BV), (∀ j, l[j]? = ops[k + j]?) →
    Region.lexFrom md ops l.length k listed = true → wpFresh P ops C Q l k a B → wpAnyV P md ops C Q l.length listed a B
  | [], _, _, _, _, _, hB, h => ⟨by simpa [Region.lexFrom] using hB, h⟩
  | o :: l, k, listed, a, B, hl, hB, h => by
    have h0 : ops[k]? = some o := by simpa using (hl 0).symm
    simp only [List.length_cons, Region.lexFrom, Bool.and_eq_true] at hB
    obtain ⟨⟨hr, hf⟩, hB'⟩ := hB
    obtain ⟨x, hy, hK⟩ := h
    exact wpAnyV_first h0 (Region.noSelect_spec hs) l.length listed a B (Region.free_spec h0 hf) (by simpa using hr) hy
      (wpAnyV_lex hs l (k + 1) _ _ _ (fun j => by have := hl (j + 1); simpa [Nat.add_assoc, Nat.add_comm 1 j] using this) hB' hK)
/-- what is known of the memory behind the region -/
structure FitsV (w0 : World) (ρ : Nat → Value) (B : BV) (w : World) : Prop where
  below : Below w0.heap.size w0 w
  box : ∀ i R, B i = some R → R w (ρ i) ∧ ∀ w w' u, R w u → Below w.heap.size w w' → R w' u
theorem FitsV.go {w0 w w' : World} {ρ : Nat → Value} {B : BV} (h : FitsV w0 ρ B w) (hb : Below w.heap.size w w') : FitsV w0 ρ B w' :=
  ⟨h.below.trans (hb.mono h.below.size), fun i R hi => ⟨(h.box i R hi).2 _ _ _ (h.box i R hi).1 hb, (h.box i R hi).2⟩⟩
theorem FitsV.new {w0 w w' : World} {ρ : Nat → Value} {B : BV} (h : FitsV w0 ρ B w) (hb : Below w.heap.size w w') (i : Nat) {R : World → Value → Prop} {u : Value} (hR : R w' u) (hs : ∀ w w' u, R w u → Below w.heap.size w w' → R w' u) :
    FitsV w0 (updV ρ i u) ((OutV.new R).bx i B) w' := by
  have h' := h.go hb
  refine ⟨h'.below, fun k R' hk => ?_⟩
  simp only [OutV.bx, updV] at *
  by_cases hki : k = i
  · rw [if_pos hki] at hk ⊢
    injection hk with hk
    subst hk
    exact ⟨hR, hs⟩
  · rw [if_neg hki] at hk ⊢
    exact h'.box k R' hk
def FreeV (listed : Array Bool) (a : SV) : Prop := ∀ (i : Nat) (ρ : Nat → Value) (b : Value), listed.getD i true = false → a (updV ρ i b) = a ρ
theorem FreeV.put {listed : Array Bool} {a : SV} (h : FreeV listed a) {i : Nat} (hi : listed.getD i true = false) (d : Option Tmp) (x : OutV) :
    FreeV (listed.setIfInBounds i true) (fun ρ => (a ρ).put d (x.at i ρ)) := by
  intro k ρ b hk
  have hlt : i < listed.size := by
    rcases Nat.lt_or_ge i listed.size with h' | h'
    · exact h'
    · simp [Array.getElem?_eq_none h'] at hi
  have hki : k ≠ i := fun e => by subst e; simp [hlt] at hk
  have hk' : listed.getD k true = false := by rwa [getD_set_ne true (Ne.symm hki)] at hk
  show (a (updV ρ k b)).put d _ = _
  rw [h k ρ b hk']
  cases x with
  | val v => rfl
  | new R =>
    show (a ρ).put d (updV ρ k b i) = (a ρ).put d (ρ i)
    have : updV ρ k b i = ρ i := if_neg (Ne.symm hki)
    rw [this]
theorem wpAny_of_fresh {w0 : World} {Q : SV → BV → Prop} {Q' : Exit → Act → World → Prop} (hQ : ∀ a B ρ w, FitsV w0 ρ B w → Q a B → Q' .normal (a ρ) w) :
    ∀ (fuel : Nat) (listed : Array Bool) (a : SV) (B : BV) (ρ : Nat → Value) (w : World), FitsV w0 ρ B w → FreeV listed a →
    wpAnyV P md ops (fun w => Below w0.heap.size w0 w) Q fuel listed a B → wpAny P md ops Q' fuel listed (a ρ) w
  | 0, _, _, _, _, _, hf, _, h => ⟨h.1, hQ _ _ _ _ hf h.2⟩
  | fuel + 1, listed, a, B, ρ, w, hf, hfr, h => by
    refine ⟨fun h0 => hQ _ _ _ _ hf (h.1 h0), fun i hi => ?_⟩
    have h1 := h.2 i hi
    obtain ⟨hun, o, ho, _⟩ := mem_ready.1 hi
    unfold vOp at h1
    simp only [ho] at h1
    obtain ⟨x, hy, hK⟩ := h1
    have hfr' := hfr.put hun o.dst x
    unfold wpOp
    simp only [ho]
    cases x with
    | val v =>
      simp only [YieldsV] at hy
      rcases hy with hy | ⟨hw, rfl⟩
      · obtain ⟨hw, hr⟩ := hy ρ
        simp only [hw, if_true]
        refine .inl ?_
        have h3 := hr w hf.below
        unfold Oper.wp
        generalize (execOp (a ρ).eval o).run P w = r at *
        cases r with
        | ok n w' =>
          cases n <;> simp only [valUpon] at h3 <;> simp only [Oper.upon]
          case value u =>
            obtain ⟨e1, e2⟩ := h3
            rw [e1, e2]
            exact wpAny_of_fresh hQ fuel _ _ B ρ w hf hfr' hK
          case skip =>
            obtain ⟨e1, e2⟩ := h3
            rw [e1, ← e2]
            exact wpAny_of_fresh hQ fuel _ _ B ρ w hf hfr' hK
          case enter f args =>
            obtain ⟨e1, hc⟩ := h3
            rw [e1]
            exact hc.mono fun e w'' ⟨he, hw''⟩ => by subst he; exact wpAny_of_fresh hQ fuel _ _ B ρ w'' (hf.go hw'') hfr' hK
        | halt x w' => simp only [valUpon] at h3
      · simp only [hw ρ, Bool.false_eq_true, if_false]
        exact wpAny_of_fresh hQ fuel _ _ B ρ w hf hfr' hK
    | new R =>
      simp only [YieldsV] at hy
      obtain ⟨hs, hy⟩ := hy
      obtain ⟨hw, hr⟩ := hy ρ
      simp only [hw, if_true]
      refine .inl ?_
      have h3 := hr w hf.below
      have key : ∀ u w', Below w.heap.size w w' → R w' u → wpAny P md ops Q' fuel (listed.setIfInBounds i true) ((a ρ).put o.dst u) w' := fun u w' hb hR => by
        have h5 := wpAny_of_fresh hQ fuel _ _ _ (updV ρ i u) w' (hf.new hb i hR hs) hfr' hK
        have e1 : (a (updV ρ i u)).put o.dst ((OutV.new R).at i (updV ρ i u)) = (a ρ).put o.dst u := by
          show (a (updV ρ i u)).put o.dst (updV ρ i u i) = _
          rw [hfr i ρ _ hun]
          have : updV ρ i u i = u := if_pos rfl
          rw [this]
        rwa [e1] at h5
      unfold Oper.wp
      generalize (execOp (a ρ).eval o).run P w = r at *
      cases r with
      | ok n w' =>
        cases n <;> simp only [newUpon] at h3 <;> simp only [Oper.upon]
        case value u => exact key u w' h3.1 h3.2
        case enter f args =>
          obtain ⟨e1, hc⟩ := h3
          rw [e1]
          exact hc.mono fun e w'' ⟨u, he, hw'', hR⟩ => by subst he; exact key u w'' hw'' hR
      | halt x w' => simp only [newUpon] at h3
theorem wp_region_fresh2 {id : Nat} {Q : Exit → Act → World → Prop} {a : Act} {w : World} {l : List Oper} {s1 s2 : Oper} (hm : P.follows .mixedOrders = true) (hB : Region.lexB .any l.toArray = true) (hU1 : usedB .any l s1 = true) (hU2 : usedB .any (l ++ [s1]) s2 = true) (hg : (l ++ [s1] ++ [s2]).all (fun o => o.guard.isNone) = true)
    (h : wpFresh P l.toArray (fun w' => Below w.heap.size w w') (fun a' B => ∀ ρ w', FitsV w ρ B w' → wpList P (l ++ [s1] ++ [s2]).toArray Q [s1, s2] (a' ρ) w') l 0 (fun _ => a) (fun _ => none)) : (Code.region id (l ++ [s1] ++ [s2]).toArray true).wp P Q a w := by
  simp only [Region.lexB, Bool.and_eq_true] at hB
  have hgs : ∀ o ∈ l ++ [s1] ++ [s2], o.guard = none := fun o ho => by
    have := (List.all_eq_true.1 hg) o ho
    simpa using this
  refine wp_region_any hm ?_
  have hf : FitsV w (fun _ => undef) (fun _ => none) { w with drawn := w.drawn + 1 } :=
    ⟨⟨rfl, rfl, rfl, Nat.le_refl _, fun _ _ => rfl⟩, fun _ _ h => (by cases h)⟩
  have h1 := wpAnyV_lex (C := fun w' => Below w.heap.size w w') (md := .any) hB.1 l 0 (Array.replicate l.toArray.size false) (fun _ => a) (fun _ => none) (by simp) (by simpa using hB.2) h
  have g1 : s1.guard = none := hgs s1 (by simp)
  have g2 : s2.guard = none := hgs s2 (by simp)
  have h2 := wpAny_of_fresh (P := P) (md := .any) (Q := fun a' B => ∀ ρ w', FitsV w ρ B w' → wpList P (l ++ [s1] ++ [s2]).toArray Q [s1, s2] (a' ρ) w') (Q' := Exit.then (wpList P (l ++ [s1]).toArray (Exit.then (wpList P (l ++ [s1] ++ [s2]).toArray Q [s2]) Q) [s1]) (Exit.then (wpList P (l ++ [s1] ++ [s2]).toArray Q [s2]) Q)) (fun a' B ρ w' hf' h' => by
    have h3 : wpList P (l ++ [s1] ++ [s2]).toArray Q [s1, s2] (a' ρ) w' := h' ρ w' hf'
    show wpList P (l ++ [s1]).toArray _ [s1] (a' ρ) w'
    rw [wpList] at h3 ⊢
    simp only [wanted_free g1, if_true] at h3 ⊢
    rcases h3 with h3 | h3
    · exact .inl (Oper.wp_mono2 (fun a w h => h) (fun _ _ _ h => h) (fun ⟨a, w, h⟩ => ⟨a, w, h⟩) h3)
    · exact .inr ⟨h3.1, (fun ⟨a, w, h⟩ => ⟨a, w, h⟩) h3.2⟩) l.toArray.size _ (fun _ => a) (fun _ => none) (fun _ => undef) _ hf (fun _ _ _ _ => rfl) (by simpa using h1)
  have h3 := wpAny_snoc (P := P) (md := .any) hU1 g1 (fun o ho => hgs o (by simp [ho])) _ _ _ a _ (tw_start l s1) h2
  have h4 := wpAny_snoc (P := P) (md := .any) hU2 g2 (fun o ho => hgs o (List.mem_append_left _ ho)) _ _ _ a _ (tw_start (l ++ [s1]) s2) h3
  simpa using h4
theorem wp_region_fresh2D {id : Nat} {Q : Exit → Act → World → Prop} {a : Act} {w : World} {L : List Oper} (hne : L ≠ []) (hne2 : L.dropLast ≠ []) (hm : P.follows .mixedOrders = true) (hB : Region.lexB .any L.dropLast.dropLast.toArray = true) (hU1 : usedB .any L.dropLast.dropLast (L.dropLast.getLast hne2) = true) (hU2 : usedB .any L.dropLast (L.getLast hne) = true) (hg : L.all (fun o => o.guard.isNone) = true)
    (h : wpFresh P L.dropLast.dropLast.toArray (fun w' => Below w.heap.size w w') (fun a' B => ∀ ρ w', FitsV w ρ B w' → wpList P L.toArray Q [L.dropLast.getLast hne2, L.getLast hne] (a' ρ) w') L.dropLast.dropLast 0 (fun _ => a) (fun _ => none)) : (Code.region id L.toArray true).wp P Q a w := by
  have e1 : L.dropLast.dropLast ++ [L.dropLast.getLast hne2] = L.dropLast := List.dropLast_concat_getLast hne2
  have e2 : L.dropLast ++ [L.getLast hne] = L := List.dropLast_concat_getLast hne
  have := wp_region_fresh2 (P := P) (id := id) (Q := Q) (a := a) (w := w) (l := L.dropLast.dropLast) (s1 := L.dropLast.getLast hne2) (s2 := L.getLast hne) hm hB hU1 (by rw [e1]; exact hU2) (by rw [e1, e2]; exact hg) (by rw [e1, e2]; exact h)
  rwa [e1, e2] at this
/-! The steps. -/
variable {Q : SV → BV → Prop} {o : Oper} {rest : List Oper} {i : Nat} {a : SV} {B : BV}
theorem fresh_val (v : Value) (hw : ∀ ρ, Region.wanted o (yielded ops (a ρ).tmps) = true) (h : ∀ ρ w, C w → (execOp (a ρ).eval o).run P w = .ok (.value v) w)
    (hn : wpFresh P ops C Q rest (i + 1) (fun ρ => (a ρ).put o.dst v) B) : wpFresh P ops C Q (o :: rest) i a B :=
  ⟨.val v, .inl fun ρ => ⟨hw ρ, fun w hc => by rw [h ρ w hc]; exact ⟨rfl, rfl⟩⟩, hn⟩
theorem fresh_call (f : FuncId) (args : Array Value) (v : Value) (hw : ∀ ρ, Region.wanted o (yielded ops (a ρ).tmps) = true) (h : ∀ ρ w, C w → (execOp (a ρ).eval o).run P w = .ok (.enter f args) w)
    (hc : ∀ w, C w → Calls P f args w fun e w' => e = .returned v ∧ Below w.heap.size w w')
    (hn : wpFresh P ops C Q rest (i + 1) (fun ρ => (a ρ).put o.dst v) B) : wpFresh P ops C Q (o :: rest) i a B :=
  ⟨.val v, .inl fun ρ => ⟨hw ρ, fun w hC => by rw [h ρ w hC]; exact ⟨rfl, hc w hC⟩⟩, hn⟩
theorem fresh_new (f : FuncId) (args : Array Value) (R : World → Value → Prop) (hs : ∀ w w' u, R w u → Below w.heap.size w w' → R w' u) (hw : ∀ ρ, Region.wanted o (yielded ops (a ρ).tmps) = true) (h : ∀ ρ w, C w → (execOp (a ρ).eval o).run P w = .ok (.enter f args) w)
    (hc : ∀ w, C w → Calls P f args w fun e w' => ∃ u, e = .returned u ∧ Below w.heap.size w w' ∧ R w' u)
    (hn : wpFresh P ops C Q rest (i + 1) (fun ρ => (a ρ).put o.dst (ρ i)) (fun k => if k = i then some R else B k)) : wpFresh P ops C Q (o :: rest) i a B :=
  ⟨.new R, ⟨hs, fun ρ => ⟨hw ρ, fun w hC => by rw [h ρ w hC]; exact ⟨rfl, hc w hC⟩⟩⟩, hn⟩
theorem fresh_box (mk : Nat → Value) (ob : Obj) (hw : ∀ ρ, Region.wanted o (yielded ops (a ρ).tmps) = true) (h : ∀ ρ w, C w → (execOp (a ρ).eval o).run P w = .ok (.value (mk w.heap.size)) (w.alloc ob)) (w0 : World) (hC : ∀ w, C w → w0.heap.size ≤ w.heap.size)
    (hn : wpFresh P ops C Q rest (i + 1) (fun ρ => (a ρ).put o.dst (ρ i)) (fun k => if k = i then some (fun w u => ∃ b, u = mk b ∧ w0.heap.size ≤ b ∧ w.heap[b]? = some ob) else B k)) : wpFresh P ops C Q (o :: rest) i a B :=
  ⟨.new (fun w u => ∃ b, u = mk b ∧ w0.heap.size ≤ b ∧ w.heap[b]? = some ob), ⟨fun w w' u ⟨b, e, h0, h1⟩ hb => ⟨b, e, h0, (hb.block _ (Array.getElem?_eq_some_iff.1 h1).1).trans h1⟩, fun ρ => ⟨hw ρ, fun w hc => by
    rw [h ρ w hc]
    exact ⟨below_alloc w ob, w.heap.size, rfl, hC w hc, heap_alloc_new w ob⟩⟩⟩, hn⟩
end
end Go.Proofs.YtgnppdkeiihlfaaGreatDoor
namespace Go.Proofs.YtgnppdkeiihlfaaGreatDoor
open Go.RowKit
section
variable {P : Program} {md : Region.Mode} {F : Fence} {n : Nat}
theorem Oper.wpIn_mono2 {o : Oper} {a : Act} {w : World} {K K' : Act → World → Prop} {Q Q' : Exit → Act → World → Prop} (h : ∀ a w, K a w → K' a w) (hp : ∀ c a w, Q (.panic c) a w → Q' (.panic c) a w) (hl : LetsOut Q → LetsOut Q')
    (hh : o.wpIn F n P a w K Q) : o.wpIn F n P a w K' Q' := by
  unfold Oper.wpIn at *
  refine ⟨hh.1, ?_⟩
  have hh := hh.2
  generalize (o.semAt F.round a.eval).run P w = r at *
  cases r with
  | ok x w' =>
    cases x <;> simp only [Oper.uponIn] at hh ⊢ <;>
      first
        | exact h _ _ hh
        | exact ⟨hh.1, CallsIn.mono hh.2 (fun e w'' he => by cases e <;> first | exact h _ _ he | exact hp _ _ _ he | exact hl he)⟩
        | exact ⟨hh.1, RowsIn.mono hh.2 (fun _ _ he => h _ _ he)⟩
        | exact ⟨hh.1, RoundIn.mono hh.2 (fun e w'' he => by cases e <;> first | exact h _ _ he | exact hp _ _ _ he | exact hl he)⟩
  | halt x w' =>
    cases x <;> simp only [Oper.uponIn] at hh ⊢ <;> first
      | exact hp _ _ _ hh
      | exact hh
/-- only normal ends -/
def onlyN (Q : Act → World → Prop) : Exit → Act → World → Prop := fun e a w => e = .normal ∧ Q a w
theorem rowsIn_of {row : String} {args : Array Value} {w : World} {R : Value → World → Prop} (h : Rows P row args w R) : RowsIn Fence.wide n P row args w R :=
  fun c cs _ => let ⟨v, w', r, s⟩ := h c cs; ⟨v, w', r, stepsIn_wide.2 s⟩
theorem wpIn_of_wp {o : Oper} {a : Act} {w : World} {K K' : Act → World → Prop} {Q0 : Act → World → Prop} {Q : Exit → Act → World → Prop} (hk : ∀ a w, K a w → K' a w) (h : o.wp P a w K (onlyN Q0)) : o.wpIn Fence.wide n P a w K' Q := by
  unfold Oper.wp at h
  unfold Oper.wpIn
  refine ⟨fun _ _ => trivial, ?_⟩
  have e : o.semAt Fence.wide.round a.eval = execOp a.eval o := rfl
  rw [e]
  generalize (execOp a.eval o).run P w = r at *
  cases r with
  | ok x w' =>
    cases x <;> simp only [Oper.upon, Oper.uponIn] at h ⊢ <;>
      first
        | exact hk _ _ h
        | exact ⟨fun h => (by cases h), callsIn_wide.2 (Calls.mono h (fun e w'' he => by
            cases e <;> first
              | exact hk _ _ he
              | exact absurd he.1 (by simp)
              | (obtain ⟨_, _, hx⟩ := he; exact absurd hx.1 (by simp))))⟩
        | exact ⟨fun h => (by cases h), rowsIn_of (Rows.mono h (fun _ _ he => hk _ _ he))⟩
        | exact absurd h (by simp)
  | halt x w' =>
    cases x <;> simp only [Oper.upon, Oper.uponIn] at h ⊢ <;> first
      | exact absurd h.1 (by simp)
      | exact h
theorem anyIn_of_any {ops : Array Oper} {Q0 : Act → World → Prop} {Q : Exit → Act → World → Prop} (hq : ∀ a w, Q0 a w → Q .normal a w) : ∀ (fuel : Nat) (listed : Array Bool) (a : Act) (w : World), wpAny P md ops (onlyN Q0) fuel listed a w → wpAnyIn Fence.wide n P md ops Q fuel listed a w
  | 0, listed, a, w, h => ⟨h.1, hq _ _ h.2.2⟩
  | fuel + 1, listed, a, w, h => by
    refine ⟨fun h0 => hq _ _ (h.1 h0).2, fun i hi => ?_⟩
    have h1 := h.2 i hi
    unfold wpOp at h1
    unfold wpOpIn
    cases ho : ops[i]? with
    | none => simp only [ho] at h1 ⊢; exact anyIn_of_any hq fuel _ _ _ h1
    | some o =>
      simp only [ho] at h1 ⊢
      split
      · rename_i hw
        simp only [hw, if_true] at h1
        rcases h1 with h1 | ⟨_, _, _, h1⟩
        · exact wpIn_of_wp (fun a w hk => anyIn_of_any hq fuel _ _ _ hk) h1
        · exact absurd h1.1 (by simp)
      · rename_i hw
        simp only [hw] at h1
        exact ⟨fun _ _ => trivial, anyIn_of_any hq fuel _ _ _ h1⟩
theorem wpAnyIn_snoc {L : List Oper} {st : Oper} {Q : Exit → Act → World → Prop} (hU : usedB md L st = true) (hg : st.guard = none) (hgs : ∀ o ∈ L, o.guard = none) :
    ∀ (fuel : Nat) (listed listed0 : Array Bool) (a : Act) (w : World), Tw L st md listed listed0 →
    wpAnyIn F n P md L.toArray (Exit.then (wpListIn F n P (L ++ [st]).toArray Q [st]) Q) fuel listed0 a w → wpAnyIn F n P md (L ++ [st]).toArray Q (fuel + 1) listed a w := by
  have lo : LetsOut (Exit.then (wpListIn F n P (L ++ [st]).toArray Q [st]) Q) → LetsOut Q := fun ⟨a, w, h⟩ => ⟨a, w, h⟩
  have fin : ∀ (fuel : Nat) (listed listed0 : Array Bool) (a : Act) (w : World), Tw L st md listed listed0 → (∀ j, j < L.length → listed0.getD j true = true) → wpListIn F n P (L ++ [st]).toArray Q [st] a w →
      wpOpIn F n P (L ++ [st]).toArray Q L.length (wpAnyIn F n P md (L ++ [st]).toArray Q fuel (listed.setIfInBounds L.length true)) a w := by
    intro fuel listed listed0 a w t hall h
    have hnone : Region.ready md (L ++ [st]).toArray (listed.setIfInBounds L.length true) = [] := by
      apply List.eq_nil_iff_forall_not_mem.2
      intro j hj
      have hj0 := (mem_ready.1 hj).1
      by_cases hjl : j = L.length
      · subst hjl; simp [t.s] at hj0
      · have hlt : j < L.length := by
          obtain ⟨o, ho, _⟩ := (mem_ready.1 hj).2
          have := (Array.getElem?_eq_some_iff.1 ho).1; simp at this; omega
        rw [getD_set_ne true (by omega), t.same j hlt, hall j hlt] at hj0; cases hj0
    have hK : ∀ a w, Q .normal a w → wpAnyIn F n P md (L ++ [st]).toArray Q fuel (listed.setIfInBounds L.length true) a w := by
      intro a w hq
      cases fuel with
      | zero => exact ⟨hnone, hq⟩
      | succ m => exact ⟨fun _ => hq, fun j hj => by rw [hnone] at hj; cases hj⟩
    unfold wpListIn at h
    unfold wpOpIn
    simp only [List.getElem?_toArray, List.getElem?_append_right (Nat.le_refl _), Nat.sub_self, List.getElem?_cons_zero]
    simp only [wanted_free hg, if_true] at h ⊢
    exact Oper.wpIn_mono (fun a w h => hK a w h) h
  intro fuel
  induction fuel with
  | zero =>
    intro listed listed0 a w t h
    have hall := t.all hU h.1
    refine ⟨fun h0 => ?_, fun i hi => ?_⟩
    · have := t.ready_last hU hall; rw [h0] at this; cases this
    · by_cases hil : i < L.length
      · have := t.ready hU hil hi; rw [h.1] at this; cases this
      · have hi2 : i = L.length := by
          obtain ⟨o, ho, _⟩ := (mem_ready.1 hi).2
          have := (Array.getElem?_eq_some_iff.1 ho).1; simp at this; omega
        subst hi2
        exact fin 0 _ _ _ _ t hall h.2
  | succ fuel ih =>
    intro listed listed0 a w t h
    refine ⟨fun h0 => ?_, fun i hi => ?_⟩
    · have hr0 : Region.ready md L.toArray listed0 = [] := by
        apply List.eq_nil_iff_forall_not_mem.2
        intro j hj
        obtain ⟨j0, o, ho, hall⟩ := mem_ready.1 hj
        have hjl : j < L.length := by have := (Array.getElem?_eq_some_iff.1 ho).1; simpa using this
        have : j ∈ Region.ready md (L ++ [st]).toArray listed := by
          rw [mem_ready]
          have ho2 : (L ++ [st])[j]? = some o := by rw [List.getElem?_append_left hjl]; simpa using ho
          refine ⟨by rw [t.same j hjl]; exact j0, o, by simpa using ho2, fun e he hb => ?_⟩
          have h2 := usedB_back hU ho2 e he
          have h3 := hall e he hb
          rw [← getD_tf (by rw [t.s]; omega), t.same e.on (by omega), getD_tf (by rw [t.s0]; omega)]
          exact h3
        rw [h0] at this; cases this
      have := t.ready_last hU (t.all hU hr0); rw [h0] at this; cases this
    · by_cases hil : i < L.length
      · have hi0 := t.ready hU hil hi
        have h1 := h.2 i hi0
        have t' := t.step hU hil hi
        obtain ⟨hun, o, ho, _⟩ := mem_ready.1 hi0
        have hoL : o ∈ L := by
          have : L[i]? = some o := by simpa using ho
          exact List.mem_of_getElem? this
        have ho2 : (L ++ [st]).toArray[i]? = some o := by
          have : (L ++ [st])[i]? = some o := by rw [List.getElem?_append_left hil]; simpa using ho
          simpa using this
        unfold wpOpIn at h1 ⊢
        simp only [ho, ho2, wanted_free (hgs o hoL), if_true] at h1 ⊢
        exact Oper.wpIn_mono2 (fun a w h => ih _ _ _ _ t' h) (fun _ _ _ h => h) lo h1
      · have hi2 : i = L.length := by
          obtain ⟨o, ho, _⟩ := (mem_ready.1 hi).2
          have := (Array.getElem?_eq_some_iff.1 ho).1; simp at this; omega
        subst hi2
        have hall := t.of_last hU hi
        have hr0 : Region.ready md L.toArray listed0 = [] := by
          apply List.eq_nil_iff_forall_not_mem.2
          intro j hj
          obtain ⟨j0, o, ho, _⟩ := mem_ready.1 hj
          have hjl : j < L.length := by have := (Array.getElem?_eq_some_iff.1 ho).1; simpa using this
          rw [hall j hjl] at j0; cases j0
        exact fin (fuel + 1) _ _ _ _ t hall (h.1 hr0)
/-- the region's last two operations wait for all others, inside a wide fence -/
theorem wpIn_region_tail2 {id : Nat} {Q : Exit → Act → World → Prop} {a : Act} {w : World} {l : List Oper} {s1 s2 : Oper} (hm : P.follows .mixedOrders = true) (hB : Region.lexB .any l.toArray = true) (hU1 : usedB .any l s1 = true) (hU2 : usedB .any (l ++ [s1]) s2 = true) (hg : (l ++ [s1] ++ [s2]).all (fun o => o.guard.isNone) = true)
    (h : wpKept P l.toArray (fun w' => Below w.heap.size w w') (fun a' B => ∀ ρ w', Fits w ρ B w' → wpListIn Fence.wide n P (l ++ [s1] ++ [s2]).toArray Q [s1, s2] (a' ρ) w') l 0 (fun _ => a) (fun _ => none)) : (Code.region id (l ++ [s1] ++ [s2]).toArray true).wpIn Fence.wide n P Q a w := by
  simp only [Region.lexB, Bool.and_eq_true] at hB
  have hgs : ∀ o ∈ l ++ [s1] ++ [s2], o.guard = none := fun o ho => by
    have := (List.all_eq_true.1 hg) o ho
    simpa using this
  refine wpIn_region_any hm ?_
  have hf : Fits w (fun _ => 0) (fun _ => none) { w with drawn := w.drawn + 1 } :=
    ⟨⟨rfl, rfl, rfl, Nat.le_refl _, fun _ _ => rfl⟩, fun _ _ _ h => (by cases h), fun _ _ h => absurd rfl h⟩
  have h1 := wpAnyK_lex (C := fun w' => Below w.heap.size w w') (md := .any) hB.1 l 0 (Array.replicate l.toArray.size false) (fun _ => a) (fun _ => none) (by simp) (by simpa using hB.2) h
  have g1 : s1.guard = none := hgs s1 (by simp)
  have g2 : s2.guard = none := hgs s2 (by simp)
  have h2 := wpAny_of_kept (P := P) (md := .any) (Q := fun a' B => ∀ ρ w', Fits w ρ B w' → wpListIn Fence.wide n P (l ++ [s1] ++ [s2]).toArray Q [s1, s2] (a' ρ) w') (Q' := onlyN (wpListIn Fence.wide n P (l ++ [s1]).toArray (Exit.then (wpListIn Fence.wide n P (l ++ [s1] ++ [s2]).toArray Q [s2]) Q) [s1])) (fun a' B ρ w' hf' h' => by
    have h3 : wpListIn Fence.wide n P (l ++ [s1] ++ [s2]).toArray Q [s1, s2] (a' ρ) w' := h' ρ w' hf'
    refine ⟨rfl, ?_⟩
    rw [wpListIn] at h3 ⊢
    simp only [wanted_free g1, if_true] at h3 ⊢
    exact Oper.wpIn_mono2 (fun a w h => h) (fun _ _ _ h => h) (fun ⟨a, w, h⟩ => ⟨a, w, h⟩) h3) l.toArray.size _ (fun _ => a) (fun _ => none) (fun _ => 0) _ hf (fun _ _ _ _ => rfl) (by simpa using h1)
  have h2b := anyIn_of_any (P := P) (md := .any) (n := n) (Q := Exit.then (wpListIn Fence.wide n P (l ++ [s1]).toArray (Exit.then (wpListIn Fence.wide n P (l ++ [s1] ++ [s2]).toArray Q [s2]) Q) [s1]) (Exit.then (wpListIn Fence.wide n P (l ++ [s1] ++ [s2]).toArray Q [s2]) Q)) (fun a w h => h) _ _ _ _ h2
  have h3 := wpAnyIn_snoc (P := P) (md := .any) (F := Fence.wide) (n := n) hU1 g1 (fun o ho => hgs o (by simp [ho])) _ _ _ a _ (tw_start l s1) h2b
  have h4 := wpAnyIn_snoc (P := P) (md := .any) (F := Fence.wide) (n := n) hU2 g2 (fun o ho => hgs o (List.mem_append_left _ ho)) _ _ _ a _ (tw_start (l ++ [s1]) s2) h3
  simpa using h4
theorem wpIn_region_tail2D {id : Nat} {Q : Exit → Act → World → Prop} {a : Act} {w : World} {L : List Oper} (hne : L ≠ []) (hne2 : L.dropLast ≠ []) (hm : P.follows .mixedOrders = true) (hB : Region.lexB .any L.dropLast.dropLast.toArray = true) (hU1 : usedB .any L.dropLast.dropLast (L.dropLast.getLast hne2) = true) (hU2 : usedB .any L.dropLast (L.getLast hne) = true) (hg : L.all (fun o => o.guard.isNone) = true)
    (h : wpKept P L.dropLast.dropLast.toArray (fun w' => Below w.heap.size w w') (fun a' B => ∀ ρ w', Fits w ρ B w' → wpListIn Fence.wide n P L.toArray Q [L.dropLast.getLast hne2, L.getLast hne] (a' ρ) w') L.dropLast.dropLast 0 (fun _ => a) (fun _ => none)) : (Code.region id L.toArray true).wpIn Fence.wide n P Q a w := by
  have e1 : L.dropLast.dropLast ++ [L.dropLast.getLast hne2] = L.dropLast := List.dropLast_concat_getLast hne2
  have e2 : L.dropLast ++ [L.getLast hne] = L := List.dropLast_concat_getLast hne
  have := wpIn_region_tail2 (P := P) (n := n) (id := id) (Q := Q) (a := a) (w := w) (l := L.dropLast.dropLast) (s1 := L.dropLast.getLast hne2) (s2 := L.getLast hne) hm hB hU1 (by rw [e1]; exact hU2) (by rw [e1, e2]; exact hg) (by rw [e1, e2]; exact h)
  rwa [e1, e2] at this
end
end Go.Proofs.YtgnppdkeiihlfaaGreatDoor
namespace Go.Proofs.YtgnppdkeiihlfaaGreatDoor
open Go.RowKit Num
theorem all_snoc' {p : UInt8 → Bool} {r : List UInt8} {k : Nat} {x : UInt8} (h : (r.take k).all p = true) (hx : r[k]? = some x) (h1 : p x = true) : (r.take (k + 1)).all p = true := by
  obtain ⟨hk, rfl⟩ := List.getElem?_eq_some_iff.1 hx
  rw [List.take_succ_eq_append_getElem hk, List.all_append, h]
  simp [h1]
theorem all_no' {p : UInt8 → Bool} {r : List UInt8} {k : Nat} {x : UInt8} (hx : r[k]? = some x) (h1 : p x = false) : r.all p = false := by
  rw [List.all_eq_false]; exact ⟨x, List.mem_of_getElem? hx, by simp [h1]⟩
theorem retb {a b : Bool} (h : a = b) : Ending.returned (.bool a) = .returned (.bool b) := by rw [h]
theorem bneq {a b : Int} (h : (a == b) = true) : (a != b) = false := by simp [bne, h]
theorem bneq' {a b : Int} (h : (a == b) = false) : (a != b) = true := by simp [bne, h]
theorem not_true_b {b : Bool} (h : ¬ b = true) : b = false := by cases b <;> simp_all
theorem reti {a b : Int} (h : a = b) : Ending.returned (.int .i64 a) = .returned (.int .i64 b) := by rw [h]
/-- a block that is known whole -/
def Blk (w : World) (b : Nat) (cs : Array Value) : Prop := ∃ t, w.heap[b]? = some (.cells cs t (0, 0))
section
variable {w w' : World} {b : Nat} {cs : Array Value}
theorem Blk.new (w : World) (cs : Array Value) (t : TypeId) : Blk (w.alloc (.cells cs t)) w.heap.size cs := ⟨t, heap_alloc_new w _⟩
theorem Blk.below (h : Blk w b cs) (hb : Below w.heap.size w w') : Blk w' b cs := by
  obtain ⟨t, h⟩ := h
  exact ⟨t, (hb.block b (Array.getElem?_eq_some_iff.1 h).1).trans h⟩
theorem Blk.c (h : Blk w b cs) (i : Nat) : w.cell? ⟨b, i, none⟩ = cs[i]? := by
  obtain ⟨t, h⟩ := h
  exact blk_cell h i
theorem Blk.f (h : Blk w b cs) (i : Nat) : w.frozen? ⟨b, i, none⟩ = false := by
  obtain ⟨t, h⟩ := h
  exact blk_frozen h i
theorem Blk.lt (h : Blk w b cs) : b < w.heap.size := by
  obtain ⟨t, h⟩ := h
  exact (Array.getElem?_eq_some_iff.1 h).1
end
theorem intbeq {a b : Int} (h : a = b) : (a == b) = true := by rw [beq_iff_eq]; exact h
theorem intbne {a b : Int} (h : ¬ a = b) : (a == b) = false := by rw [beq_eq_false_iff_ne]; exact h
theorem FBox.setNe {W : World} {b c : Nat} {u v : Value} (h : FBox W b u v) (hn : b ≠ c) (x y : Value) : FBox ((W.setCell ⟨c, 0, none⟩ x).setCell ⟨c, 1, none⟩ y) b u v := by
  have c0 := h.c0; have c1 := h.c1; have f0 := h.f0; have f1 := h.f1; have lt := h.lt
  refine ⟨by simp [go_sem, c0], by simp [go_sem, c1], by simp [go_sem, f0], by simp [go_sem, f1], by simp [lt]⟩
end Go.Proofs.YtgnppdkeiihlfaaGreatDoor
namespace Go.Proofs.YtgnppdkeiihlfaaGreatDoor
open Go.RowKit Num
def nameC (c : UInt8) : Bool := (decide (97 ≤ c.toNat) && decide (c.toNat ≤ 122)) || (decide (48 ≤ c.toNat) && decide (c.toNat ≤ 57)) || decide (c.toNat = 95)
def nameB (l : List UInt8) : Bool := decide (1 ≤ l.length) && decide (l.length ≤ 16) && l.all nameC
def codeC (c : UInt8) : Bool := decide (65 ≤ c.toNat) && decide (c.toNat ≤ 90)
def codeB (l : List UInt8) : Bool := decide (l.length = 3) && l.all codeC
def dayB (d : Int) : Bool := decide (-25567 ≤ d) && decide (d ≤ 84005)
def dayE (d : Int) : Int := if dayB d = true then 0 else 13
theorem bytes_conv (l : List UInt8) (w : World) : ∃ (cap : Nat) (C : Array Value), (convert 9 159 (.string ⟨l.toArray⟩)).run Tryz.prog w = .ok (.slice (some ⟨w.heap.size, 0, none⟩) l.length cap) (w.drew.alloc (.cells C 5 (C.size, C.size + 1))) ∧
    ∀ (j : Nat) (x : UInt8), l[j]? = some x → (w.alloc (.cells C 5 (C.size, C.size + 1))).cell? ⟨w.heap.size, j, none⟩ = some (.int .u8 (x.toNat : Int)) := by
  have h := run_bytes_of_string (P := Tryz.prog) w 9 159 5 ⟨l.toArray⟩ Tryz.underlying9 Tryz.underlying159 Tryz.underlying5
  have hs : (⟨l.toArray⟩ : ByteArray).size = l.length := by show l.toArray.size = _; simp
  rw [hs] at h
  refine ⟨_, _, h, fun j x hx => ?_⟩
  obtain ⟨hj, rfl⟩ := List.getElem?_eq_some_iff.1 hx
  rw [World.cell?_alloc_mark, bytesRow_at _ _ _ (by simpa using hj)]
  simp
set_option maxHeartbeats 1000000 in
theorem iCode {l : List UInt8} (hl : l.length ≤ 1000000) : Ret 130 #[.string ⟨l.toArray⟩] (.bool (codeB l)) := fun w hG => by
  by_cases h3 : l.length = 3
  · obtain ⟨cap, C, hconv, hcell⟩ := bytes_conv l w
    have HC := Lib.hid hcell
    have k1 : (((l.length : Int)) != 3) = false := by simp; omega
    have k2 : ((l.length : Int) == 3) = true := by simp; omega
    have HV : Hid (∀ b, l.all codeC = b → codeB l = b) := by intro b hb; unfold codeB; rw [hb, decide_eq_true h3, Bool.true_and]
    have hb : Below w.heap.size w (w.alloc (.cells C 5 (C.size, C.size + 1))).drew := bto (below_alloc _ _) (bdr _)
    clear hcell h3
    go_enter Tryz.func130, Tryz.ntmps130
    go_wp2_with fail
    clear hconv
    go_loop [11] (fun iv => ∃ k : Nat, k ≤ l.length ∧ iv = .int .i64 (k : Int) ∧ Hid ((l.take k).all codeC = true)) (fun iv => l.length - (intOf iv).toNat)
    case atStart => exact ⟨0, Nat.zero_le _, rfl, rfl⟩
    case round =>
      obtain ⟨k, hk, rfl, HK⟩ := hrel
      by_cases hlt : k < l.length
      · obtain ⟨x, hx⟩ : ∃ x, l[k]? = some x := ⟨_, List.getElem?_eq_getElem hlt⟩
        have hc := HC.out k x hx
        have HX := Lib.hid hx
        clear hx
        by_cases d1 : (x.toNat : Int) < 65
        · have e1 : decide ((x.toNat : Int) < 65) = true := decide_eq_true d1
          go_wp2
          go_ret
          exact ⟨retb (HV.out _ (all_no' HX.out (by unfold codeC; rw [decide_eq_false (by omega), Bool.false_and]))).symm, hb⟩
        · have e1 : decide ((x.toNat : Int) < 65) = false := decide_eq_false d1
          by_cases d2 : 90 < (x.toNat : Int)
          · have e2 : decide (90 < (x.toNat : Int)) = true := decide_eq_true d2
            go_wp2
            go_ret
            exact ⟨retb (HV.out _ (all_no' HX.out (by unfold codeC; rw [decide_eq_false (p := x.toNat ≤ 90) (by omega), Bool.and_false]))).symm, hb⟩
          · have e2 : decide (90 < (x.toNat : Int)) = false := decide_eq_false d2
            go_wp2
            go_round
            case rel => exact ⟨k + 1, by omega, by go_num, all_snoc' HK.out HX.out (by unfold codeC; rw [decide_eq_true (by omega), decide_eq_true (by omega)]; rfl)⟩
            case measure => simp [intOf]; omega
      · have HK' : Hid (l.all codeC = true) := by have := HK.out; rw [List.take_of_length_le (by omega)] at this; exact this
        go_wp2
        go_ret
        exact ⟨retb (HV.out _ HK'.out).symm, hb⟩
  · have k1 : (((l.length : Int)) != 3) = true := by simp; omega
    have k2 : ((l.length : Int) == 3) = false := by simp; omega
    have HV : Hid (codeB l = false) := by show _ = _; unfold codeB; rw [decide_eq_false h3, Bool.false_and]
    clear h3
    go_enter Tryz.func130, Tryz.ntmps130
    go_wp2
    go_ret
    exact ⟨retb (HV.out).symm, Below.refl _ _⟩
end Go.Proofs.YtgnppdkeiihlfaaGreatDoor
namespace Go.Proofs.YtgnppdkeiihlfaaGreatDoor
open Go.RowKit Num
theorem codeC_iff (c : UInt8) : codeC c = true ↔ 65 ≤ c.toNat ∧ c.toNat ≤ 90 := by simp [codeC]
theorem nameC_iff (c : UInt8) : nameC c = true ↔ (97 ≤ c.toNat ∧ c.toNat ≤ 122) ∨ (48 ≤ c.toNat ∧ c.toNat ≤ 57) ∨ c.toNat = 95 := by simp [nameC, or_assoc]
set_option maxHeartbeats 1000000 in
theorem jCode {l : List UInt8} (hl : l.length ≤ 1000000) : Ret 160 #[.string ⟨l.toArray⟩] (.bool (codeB l)) := fun w hG => by
  have hb := Below.refl w.heap.size w
  have HN : Hid (l.all codeC = false → codeB l = false) := by intro h; unfold codeB; rw [h, Bool.and_false]
  have HY : Hid (l.all codeC = true → ((l.length : Int) == 3) = codeB l) := by intro h; unfold codeB; rw [h, Bool.and_true]; by_cases h3 : l.length = 3 <;> simp [h3] <;> omega
  go_enter Tryz.func160, Tryz.ntmps160
  go_wp2_with fail
  go_loop [3] (fun iv => ∃ k : Nat, k ≤ l.length ∧ iv = .int .i64 (k : Int) ∧ Hid ((l.take k).all codeC = true)) (fun iv => l.length - (intOf iv).toNat)
  case atStart => exact ⟨0, Nat.zero_le _, rfl, rfl⟩
  case round =>
    obtain ⟨k, hk, rfl, HK⟩ := hrel
    by_cases hlt : k < l.length
    · have hlt' : k < (⟨l.toArray⟩ : ByteArray).size := by show k < l.toArray.size; simpa using hlt
      obtain ⟨x, hx⟩ : ∃ x, x = (⟨l.toArray⟩ : ByteArray)[k] := ⟨_, rfl⟩
      have hxl : l[k]? = some x := by rw [hx]; simp [hlt]; rfl
      have HX := Lib.hid hxl
      clear hxl
      have hx2 : ∀ hp, (⟨l.toArray⟩ : ByteArray)[k]'hp = x := fun _ => hx.symm
      clear hx
      by_cases d1 : (x.toNat : Int) < 65
      · have ed1 : decide ((x.toNat : Int) < 65) = true := decide_eq_true d1
        go_wp2
        go_ret
        exact ⟨retb (HN.out (all_no' HX.out (not_true_b (fun h => by have := (codeC_iff _).1 h; omega)))).symm, hb⟩
      · have ed1 : decide ((x.toNat : Int) < 65) = false := decide_eq_false d1
        by_cases d2 : 90 < (x.toNat : Int)
        · have ed2 : decide (90 < (x.toNat : Int)) = true := decide_eq_true d2
          go_wp2
          go_ret
          exact ⟨retb (HN.out (all_no' HX.out (not_true_b (fun h => by have := (codeC_iff _).1 h; omega)))).symm, hb⟩
        · have ed2 : decide (90 < (x.toNat : Int)) = false := decide_eq_false d2
          go_wp2
          go_round
          case rel => exact ⟨k + 1, by omega, by go_num, all_snoc' HK.out HX.out ((codeC_iff _).2 (by omega))⟩
          case measure => simp [intOf]; omega
    · have HK' : Hid (l.all codeC = true) := by have := HK.out; rw [List.take_of_length_le (by omega)] at this; exact this
      clear HK
      go_wp2
      go_ret
      exact ⟨retb (HY.out HK'.out), hb⟩
set_option maxHeartbeats 1000000 in
theorem jCode5 {l : List UInt8} (hl : l.length ≤ 1000000) : Ret 110 #[.string ⟨l.toArray⟩] (.bool (codeB l)) := fun w hG => by
  have hb := Below.refl w.heap.size w
  have HN : Hid (l.all codeC = false → codeB l = false) := by intro h; unfold codeB; rw [h, Bool.and_false]
  have HY : Hid (l.all codeC = true → ((l.length : Int) == 3) = codeB l) := by intro h; unfold codeB; rw [h, Bool.and_true]; by_cases h3 : l.length = 3 <;> simp [h3] <;> omega
  go_enter Tryz.func110, Tryz.ntmps110
  go_wp2_with fail
  go_loop [3] (fun iv => ∃ k : Nat, k ≤ l.length ∧ iv = .int .i64 (k : Int) ∧ Hid ((l.take k).all codeC = true)) (fun iv => l.length - (intOf iv).toNat)
  case atStart => exact ⟨0, Nat.zero_le _, rfl, rfl⟩
  case round =>
    obtain ⟨k, hk, rfl, HK⟩ := hrel
    by_cases hlt : k < l.length
    · have hlt' : k < (⟨l.toArray⟩ : ByteArray).size := by show k < l.toArray.size; simpa using hlt
      obtain ⟨x, hx⟩ : ∃ x, x = (⟨l.toArray⟩ : ByteArray)[k] := ⟨_, rfl⟩
      have hxl : l[k]? = some x := by rw [hx]; simp [hlt]; rfl
      have HX := Lib.hid hxl
      clear hxl
      have hx2 : ∀ hp, (⟨l.toArray⟩ : ByteArray)[k]'hp = x := fun _ => hx.symm
      clear hx
      by_cases d1 : (x.toNat : Int) < 65
      · have ed1 : decide ((x.toNat : Int) < 65) = true := decide_eq_true d1
        go_wp2
        go_ret
        exact ⟨retb (HN.out (all_no' HX.out (not_true_b (fun h => by have := (codeC_iff _).1 h; omega)))).symm, hb⟩
      · have ed1 : decide ((x.toNat : Int) < 65) = false := decide_eq_false d1
        by_cases d2 : 90 < (x.toNat : Int)
        · have ed2 : decide (90 < (x.toNat : Int)) = true := decide_eq_true d2
          go_wp2
          go_ret
          exact ⟨retb (HN.out (all_no' HX.out (not_true_b (fun h => by have := (codeC_iff _).1 h; omega)))).symm, hb⟩
        · have ed2 : decide (90 < (x.toNat : Int)) = false := decide_eq_false d2
          go_wp2
          go_round
          case rel => exact ⟨k + 1, by omega, by go_num, all_snoc' HK.out HX.out ((codeC_iff _).2 (by omega))⟩
          case measure => simp [intOf]; omega
    · have HK' : Hid (l.all codeC = true) := by have := HK.out; rw [List.take_of_length_le (by omega)] at this; exact this
      clear HK
      go_wp2
      go_ret
      exact ⟨retb (HY.out HK'.out), hb⟩
set_option maxHeartbeats 2000000 in
set_option maxRecDepth 100000 in
theorem jName {l : List UInt8} (hl : l.length ≤ 1000000) : Ret 159 #[.string ⟨l.toArray⟩] (.bool (nameB l)) := fun w hG => by
  have hb := Below.refl w.heap.size w
  have HN : Hid (l.all nameC = false → nameB l = false) := by intro h; unfold nameB; rw [h, Bool.and_false]
  have HY : Hid (l.all nameC = true → nameB l = (decide (1 ≤ l.length) && decide (l.length ≤ 16))) := by intro h; unfold nameB; rw [h, Bool.and_true]
  go_enter Tryz.func159, Tryz.ntmps159
  go_wp2_with fail
  go_loop [3] (fun iv => ∃ k : Nat, k ≤ l.length ∧ iv = .int .i64 (k : Int) ∧ Hid ((l.take k).all nameC = true)) (fun iv => l.length - (intOf iv).toNat)
  case atStart => exact ⟨0, Nat.zero_le _, rfl, rfl⟩
  case round =>
    obtain ⟨k, hk, rfl, HK⟩ := hrel
    by_cases hlt : k < l.length
    · have hlt' : k < (⟨l.toArray⟩ : ByteArray).size := by show k < l.toArray.size; simpa using hlt
      obtain ⟨x, hx⟩ : ∃ x, x = (⟨l.toArray⟩ : ByteArray)[k] := ⟨_, rfl⟩
      have hxl : l[k]? = some x := by rw [hx]; simp [hlt]; rfl
      have HX := Lib.hid hxl
      clear hxl
      have hx2 : ∀ hp, (⟨l.toArray⟩ : ByteArray)[k]'hp = x := fun _ => hx.symm
      clear hx
      by_cases d1 : (x.toNat : Int) < 97
      · have ed1 : decide ((x.toNat : Int) < 97) = true := decide_eq_true d1
        by_cases d3 : (x.toNat : Int) < 48
        · have ed3 : decide ((x.toNat : Int) < 48) = true := decide_eq_true d3
          by_cases d5 : x.toNat = 95
          · have e5 : ((x.toNat : Int) == 95) = true := by rw [beq_iff_eq]; omega
            have e6 : ((x.toNat : Int) != 95) = false := bneq e5
            go_wp2
            go_round
            case rel => exact ⟨k + 1, by omega, by go_num, all_snoc' HK.out HX.out ((nameC_iff _).2 (by omega))⟩
            case measure => simp [intOf]; omega
          · have e5 : ((x.toNat : Int) == 95) = false := by rw [beq_eq_false_iff_ne]; omega
            have e6 : ((x.toNat : Int) != 95) = true := bneq' e5
            go_wp2
            go_ret
            exact ⟨retb (HN.out (all_no' HX.out (not_true_b (fun h => by have := (nameC_iff _).1 h; omega)))).symm, hb⟩
        · have ed3 : decide ((x.toNat : Int) < 48) = false := decide_eq_false d3
          by_cases d4 : 57 < (x.toNat : Int)
          · have ed4 : decide (57 < (x.toNat : Int)) = true := decide_eq_true d4
            by_cases d5 : x.toNat = 95
            · have e5 : ((x.toNat : Int) == 95) = true := by rw [beq_iff_eq]; omega
              have e6 : ((x.toNat : Int) != 95) = false := bneq e5
              go_wp2
              go_round
              case rel => exact ⟨k + 1, by omega, by go_num, all_snoc' HK.out HX.out ((nameC_iff _).2 (by omega))⟩
              case measure => simp [intOf]; omega
            · have e5 : ((x.toNat : Int) == 95) = false := by rw [beq_eq_false_iff_ne]; omega
              have e6 : ((x.toNat : Int) != 95) = true := bneq' e5
              go_wp2
              go_ret
              exact ⟨retb (HN.out (all_no' HX.out (not_true_b (fun h => by have := (nameC_iff _).1 h; omega)))).symm, hb⟩
          · have ed4 : decide (57 < (x.toNat : Int)) = false := decide_eq_false d4
            go_wp2
            go_round
            case rel => exact ⟨k + 1, by omega, by go_num, all_snoc' HK.out HX.out ((nameC_iff _).2 (by omega))⟩
            case measure => simp [intOf]; omega
      · have ed1 : decide ((x.toNat : Int) < 97) = false := decide_eq_false d1
        by_cases d2 : 122 < (x.toNat : Int)
        · have ed2 : decide (122 < (x.toNat : Int)) = true := decide_eq_true d2
          have e3 : decide ((x.toNat : Int) < 48) = false := decide_eq_false (by omega)
          have d3 : ¬ (x.toNat : Int) < 48 := by omega
          have e4 : decide (57 < (x.toNat : Int)) = true := decide_eq_true (by omega)
          have d4 : 57 < (x.toNat : Int) := by omega
          have e5 : ((x.toNat : Int) == 95) = false := by rw [beq_eq_false_iff_ne]; omega
          have e6 : ((x.toNat : Int) != 95) = true := bneq' e5
          have d5 : ¬ x.toNat = 95 := by omega
          go_wp2
          go_ret
          exact ⟨retb (HN.out (all_no' HX.out (not_true_b (fun h => by have := (nameC_iff _).1 h; omega)))).symm, hb⟩
        · have ed2 : decide (122 < (x.toNat : Int)) = false := decide_eq_false d2
          go_wp2
          go_round
          case rel => exact ⟨k + 1, by omega, by go_num, all_snoc' HK.out HX.out ((nameC_iff _).2 (by omega))⟩
          case measure => simp [intOf]; omega
    · have HK' : Hid (l.all nameC = true) := by have := HK.out; rw [List.take_of_length_le (by omega)] at this; exact this
      clear HK
      have HW := Lib.hid (HY.out HK'.out)
      by_cases g1 : 1 ≤ l.length
      · have e1 : decide (1 ≤ l.length) = true := decide_eq_true g1
        have e1' : decide ((1 : Int) ≤ (l.length : Int)) = true := decide_eq_true (by omega)
        go_wp2
        go_ret
        exact ⟨retb (by rw [HW.out, e1]; simp; omega), hb⟩
      · have e1 : decide (1 ≤ l.length) = false := decide_eq_false g1
        have e1' : decide ((1 : Int) ≤ (l.length : Int)) = false := decide_eq_false (by omega)
        go_wp2
        go_ret
        exact ⟨retb (by rw [HW.out, e1]; rfl), hb⟩
set_option maxHeartbeats 2000000 in
set_option maxRecDepth 100000 in
theorem iName {l : List UInt8} (hl : l.length ≤ 1000000) : Ret 129 #[.string ⟨l.toArray⟩] (.bool (nameB l)) := fun w hG => by
  by_cases h1 : l.length = 0
  · have k2 : ((l.length : Int) == 0) = true := by rw [beq_iff_eq]; omega
    have HV : Hid (nameB l = false) := by show _ = _; unfold nameB; rw [decide_eq_false (by omega), Bool.false_and, Bool.false_and]
    clear h1
    go_enter Tryz.func129, Tryz.ntmps129
    go_wp2
    go_ret
    exact ⟨retb HV.out.symm, Below.refl _ _⟩
  by_cases h2 : 16 < l.length
  · have k2 : ((l.length : Int) == 0) = false := by rw [beq_eq_false_iff_ne]; omega
    have k3 : decide (16 < l.length) = true := decide_eq_true h2
    have HV : Hid (nameB l = false) := by show _ = _; unfold nameB; rw [decide_eq_false (p := l.length ≤ 16) (by omega), Bool.and_false, Bool.false_and]
    clear h1
    go_enter Tryz.func129, Tryz.ntmps129
    go_wp2
    go_ret
    exact ⟨retb HV.out.symm, Below.refl _ _⟩
  obtain ⟨cap, C, hconv, hcell⟩ := bytes_conv l w
  have HC := Lib.hid hcell
  have k2 : ((l.length : Int) == 0) = false := by rw [beq_eq_false_iff_ne]; omega
  have k3 : decide (16 < l.length) = false := decide_eq_false h2
  have HV : Hid (∀ b, l.all nameC = b → nameB l = b) := by intro b hb; unfold nameB; rw [hb, decide_eq_true (by omega), decide_eq_true (by omega)]; rfl
  have hb : Below w.heap.size w (w.alloc (.cells C 5 (C.size, C.size + 1))).drew := bto (below_alloc _ _) (bdr _)
  clear hcell h1
  go_enter Tryz.func129, Tryz.ntmps129
  go_wp2_with fail
  clear hconv k2 k3 h2
  go_loop [16] (fun iv => ∃ k : Nat, k ≤ l.length ∧ iv = .int .i64 (k : Int) ∧ Hid ((l.take k).all nameC = true)) (fun iv => l.length - (intOf iv).toNat)
  case atStart => exact ⟨0, Nat.zero_le _, rfl, rfl⟩
  case round =>
    obtain ⟨k, hk, rfl, HK⟩ := hrel
    by_cases hlt : k < l.length
    · obtain ⟨x, hx⟩ : ∃ x, l[k]? = some x := ⟨_, List.getElem?_eq_getElem hlt⟩
      have hc := HC.out k x hx
      have HX := Lib.hid hx
      clear hx
      by_cases d1 : (x.toNat : Int) < 97
      · have ed1 : decide ((x.toNat : Int) < 97) = true := decide_eq_true d1
        by_cases d3 : (x.toNat : Int) < 48
        · have ed3 : decide ((x.toNat : Int) < 48) = true := decide_eq_true d3
          by_cases d5 : x.toNat = 95
          · have e5 : ((x.toNat : Int) == 95) = true := by rw [beq_iff_eq]; omega
            have e6 : ((x.toNat : Int) != 95) = false := bneq e5
            go_wp2
            go_round
            case rel => exact ⟨k + 1, by omega, by go_num, all_snoc' HK.out HX.out ((nameC_iff _).2 (by omega))⟩
            case measure => simp [intOf]; omega
          · have e5 : ((x.toNat : Int) == 95) = false := by rw [beq_eq_false_iff_ne]; omega
            have e6 : ((x.toNat : Int) != 95) = true := bneq' e5
            go_wp2
            go_ret
            exact ⟨retb (HV.out _ (all_no' HX.out (not_true_b (fun h => by have := (nameC_iff _).1 h; omega)))).symm, hb⟩
        · have ed3 : decide ((x.toNat : Int) < 48) = false := decide_eq_false d3
          by_cases d4 : 57 < (x.toNat : Int)
          · have ed4 : decide (57 < (x.toNat : Int)) = true := decide_eq_true d4
            by_cases d5 : x.toNat = 95
            · have e5 : ((x.toNat : Int) == 95) = true := by rw [beq_iff_eq]; omega
              have e6 : ((x.toNat : Int) != 95) = false := bneq e5
              go_wp2
              go_round
              case rel => exact ⟨k + 1, by omega, by go_num, all_snoc' HK.out HX.out ((nameC_iff _).2 (by omega))⟩
              case measure => simp [intOf]; omega
            · have e5 : ((x.toNat : Int) == 95) = false := by rw [beq_eq_false_iff_ne]; omega
              have e6 : ((x.toNat : Int) != 95) = true := bneq' e5
              go_wp2
              go_ret
              exact ⟨retb (HV.out _ (all_no' HX.out (not_true_b (fun h => by have := (nameC_iff _).1 h; omega)))).symm, hb⟩
          · have ed4 : decide (57 < (x.toNat : Int)) = false := decide_eq_false d4
            go_wp2
            go_round
            case rel => exact ⟨k + 1, by omega, by go_num, all_snoc' HK.out HX.out ((nameC_iff _).2 (by omega))⟩
            case measure => simp [intOf]; omega
      · have ed1 : decide ((x.toNat : Int) < 97) = false := decide_eq_false d1
        by_cases d2 : 122 < (x.toNat : Int)
        · have ed2 : decide (122 < (x.toNat : Int)) = true := decide_eq_true d2
          have e3 : decide ((x.toNat : Int) < 48) = false := decide_eq_false (by omega)
          have d3 : ¬ (x.toNat : Int) < 48 := by omega
          have e4 : decide (57 < (x.toNat : Int)) = true := decide_eq_true (by omega)
          have d4 : 57 < (x.toNat : Int) := by omega
          have e5 : ((x.toNat : Int) == 95) = false := by rw [beq_eq_false_iff_ne]; omega
          have e6 : ((x.toNat : Int) != 95) = true := bneq' e5
          have d5 : ¬ x.toNat = 95 := by omega
          go_wp2
          go_ret
          exact ⟨retb (HV.out _ (all_no' HX.out (not_true_b (fun h => by have := (nameC_iff _).1 h; omega)))).symm, hb⟩
        · have ed2 : decide (122 < (x.toNat : Int)) = false := decide_eq_false d2
          go_wp2
          go_round
          case rel => exact ⟨k + 1, by omega, by go_num, all_snoc' HK.out HX.out ((nameC_iff _).2 (by omega))⟩
          case measure => simp [intOf]; omega
    · have HK' : Hid (l.all nameC = true) := by have := HK.out; rw [List.take_of_length_le (by omega)] at this; exact this
      clear HK
      go_wp2
      go_ret
      exact ⟨retb (HV.out _ HK'.out).symm, hb⟩
end Go.Proofs.YtgnppdkeiihlfaaGreatDoor
