/- Texts put together: Bh Bx Va Vb Vc Dp Da Vd Ia Ib Ic Id. -/
import Derived.Test.YtgnppdkeiihlfaaGreatDoorFBk
import Derived.Test.YtgnppdkeiihlfaaGreatDoorFBd
import Derived.Test.YtgnppdkeiihlfaaGreatDoorFBe
import Derived.Test.YtgnppdkeiihlfaaGreatDoorFCd
import Derived.Laws.IdiomStrings
namespace Go.Proofs.YtgnppdkeiihlfaaGreatDoor
open Go.RowKit Num
theorem all_snoc' {p : UInt8 → Bool} {r : List UInt8} {k : Nat} {x : UInt8} (h : (r.take k).all p = true) (hx : r[k]? = some x) (h1 : p x = true) : (r.take (k + 1)).all p = true := by
  obtain ⟨hk, rfl⟩ := List.getElem?_eq_some_iff.1 hx
  rw [List.take_succ_eq_append_getElem hk, List.all_append, h]
  simp [h1]
theorem all_no' {p : UInt8 → Bool} {r : List UInt8} {k : Nat} {x : UInt8} (hx : r[k]? = some x) (h1 : p x = false) : r.all p = false := by
  rw [List.all_eq_false]; exact ⟨x, List.mem_of_getElem? hx, by simp [h1]⟩
theorem retb {a b : Bool} (h : a = b) : Ending.returned (.bool a) = .returned (.bool b) := by rw [h]
theorem bneq {a b : Int} (h : (a == b) = true) : (a != b) = false := by simp [bne, h]
theorem bneq' {a b : Int} (h : (a == b) = false) : (a != b) = true := by simp [bne, h]
theorem not_true_b {b : Bool} (h : ¬ b = true) : b = false := by cases b <;> simp_all
theorem reti {a b : Int} (h : a = b) : Ending.returned (.int .i64 a) = .returned (.int .i64 b) := by rw [h]
def Blk (w : World) (b : Nat) (cs : Array Value) : Prop := ∃ t, w.heap[b]? = some (.cells cs t (0, 0))
section
variable {w w' : World} {b : Nat} {cs : Array Value}
theorem Blk.new (w : World) (cs : Array Value) (t : TypeId) : Blk (w.alloc (.cells cs t)) w.heap.size cs := ⟨t, heap_alloc_new w _⟩
theorem Blk.below (h : Blk w b cs) (hb : Below w.heap.size w w') : Blk w' b cs := by
  obtain ⟨t, h⟩ := h
  exact ⟨t, (hb.block b (Array.getElem?_eq_some_iff.1 h).1).trans h⟩
theorem Blk.c (h : Blk w b cs) (i : Nat) : w.cell? ⟨b, i, none⟩ = cs[i]? := by
  obtain ⟨t, h⟩ := h
  exact blk_cell h i
theorem Blk.lt (h : Blk w b cs) : b < w.heap.size := by
  obtain ⟨t, h⟩ := h
  exact (Array.getElem?_eq_some_iff.1 h).1
end
theorem intbeq {a b : Int} (h : a = b) : (a == b) = true := by rw [beq_iff_eq]; exact h
theorem intbne {a b : Int} (h : ¬ a = b) : (a == b) = false := by rw [beq_eq_false_iff_ne]; exact h
end Go.Proofs.YtgnppdkeiihlfaaGreatDoor
namespace Go.Proofs.YtgnppdkeiihlfaaGreatDoor
open Go.RowKit
section
variable {P : Program} {ops : Array Oper} {md : Region.Mode}
structure BelowX (X : Nat → Prop) (w w' : World) : Prop where
  os : w'.os = w.os
  tape : w'.tape = w.tape
  output : w'.output = w.output
  size : w.heap.size ≤ w'.heap.size
  block : ∀ k, k < w.heap.size → ¬ X k → w'.heap[k]? = w.heap[k]?
structure FitsX (X : Nat → Prop) (w0 : World) (ρ : Nat → Nat) (B : Bx) (w : World) : Prop where
  below : BelowX X w0 w
  box : ∀ i s ob, B i = some (s, ob) → (w0.heap.size ≤ ρ i ∨ X (ρ i)) ∧ w.heap[ρ i]? = some ob
  ne : ∀ i j, B i ≠ none → B j ≠ none → ρ i = ρ j → i = j
variable {X : Nat → Prop}
theorem BelowX.lower {w0 w w' : World} (h : BelowX X w w') (hb : Below w0.heap.size w0 w) (hX : ∀ k, X k → w0.heap.size ≤ k) : Below w0.heap.size w0 w' :=
  ⟨h.os.trans hb.os, h.tape.trans hb.tape, h.output.trans hb.output, Nat.le_trans hb.size h.size, fun k hk => (h.block k (Nat.lt_of_lt_of_le hk hb.size) (fun hx => by have := hX k hx; omega)).trans (hb.block k hk)⟩
theorem FitsX.go {w0 w w' : World} {ρ : Nat → Nat} {B : Bx} (h : FitsX X w0 ρ B w) (hb : Below w.heap.size w w') : FitsX X w0 ρ B w' := by
  refine ⟨⟨hb.os.trans h.below.os, hb.tape.trans h.below.tape, hb.output.trans h.below.output, Nat.le_trans h.below.size hb.size, fun k hk hx => (hb.block k (Nat.lt_of_lt_of_le hk h.below.size)).trans (h.below.block k hk hx)⟩, fun i s ob hi => ?_, h.ne⟩
  obtain ⟨h1, h2⟩ := h.box i s ob hi
  exact ⟨h1, (hb.block _ (Array.getElem?_eq_some_iff.1 h2).1).trans h2⟩
theorem FitsX.alloc {w0 w : World} {ρ : Nat → Nat} {B : Bx} (h : FitsX X w0 ρ B w) (i : Nat) (mk : Nat → Value) (ob : Obj) :
    FitsX X w0 (upd ρ i w.heap.size) ((Out.box mk ob).bx i B) (w.alloc ob) := by
  have hlt : ∀ k, B k ≠ none → ρ k < w.heap.size := fun k hk => by
    cases hB : B k with
    | none => exact absurd hB hk
    | some o => exact (Array.getElem?_eq_some_iff.1 (h.box k o.1 o.2 hB).2).1
  refine ⟨⟨h.below.os, h.below.tape, h.below.output, by rw [World.size_alloc]; have := h.below.size; omega, fun k hk hx => (Below.heap_alloc w ob k (by have := h.below.size; omega)).trans (h.below.block k hk hx)⟩, fun k s o hk => ?_, fun k l hk hl he => ?_⟩
  · simp only [Out.bx, upd] at *
    by_cases hki : k = i
    · rw [if_pos hki] at hk ⊢
      simp only [Option.some.injEq, Prod.mk.injEq] at hk
      obtain ⟨-, rfl⟩ := hk
      exact ⟨.inl h.below.size, by show (w.heap.push ob)[w.heap.size]? = _; simp⟩
    · rw [if_neg hki] at hk ⊢
      obtain ⟨h1, h2⟩ := h.box k s o hk
      exact ⟨h1, (Below.heap_alloc w ob _ (hlt k (by rw [hk]; simp))).trans h2⟩
  · simp only [Out.bx, upd] at *
    by_cases hki : k = i <;> by_cases hli : l = i
    · rw [hki, hli]
    · rw [if_pos hki, if_neg hli] at he
      rw [if_neg hli] at hl
      have := hlt l hl; omega
    · rw [if_neg hki, if_pos hli] at he
      rw [if_neg hki] at hk
      have := hlt k hk; omega
    · rw [if_neg hki, if_neg hli] at he
      rw [if_neg hki] at hk
      rw [if_neg hli] at hl
      exact h.ne k l hk hl he
theorem FitsX.turn {w0 w w' : World} {ρ : Nat → Nat} {B : Bx} (h : FitsX X w0 ρ B w) {i k : Nat} {ob0 ob : Obj} (hB : B k = some (false, ob0)) (ht : Turned w w' (ρ k) ob) :
    FitsX X w0 ρ ((Out.put k ob0 ob).bx i B) w' := by
  have hk := (h.box k _ _ hB).1
  refine ⟨⟨ht.os.trans h.below.os, ht.tape.trans h.below.tape, ht.output.trans h.below.output, by rw [ht.size]; exact h.below.size, fun b hb hx => (ht.old b (fun e => by subst e; rcases hk with hk | hk; · omega
                                                                                                                                                                          · exact hx hk)).trans (h.below.block b hb hx)⟩, fun l s o hl => ?_, fun l m hl hm he => ?_⟩
  · simp only [Out.bx] at hl
    by_cases hlk : l = k
    · rw [if_pos hlk] at hl
      simp only [Option.some.injEq, Prod.mk.injEq] at hl
      obtain ⟨-, rfl⟩ := hl
      rw [hlk]
      exact ⟨hk, ht.new⟩
    · rw [if_neg hlk] at hl
      obtain ⟨h1, h2⟩ := h.box l s o hl
      exact ⟨h1, (ht.old _ (fun e => hlk (h.ne l k (by rw [hl]; simp) (by rw [hB]; simp) e))).trans h2⟩
  · have hf : ∀ l, (Out.put k ob0 ob).bx i B l ≠ none → B l ≠ none := fun l hl => by
      simp only [Out.bx] at hl
      by_cases hlk : l = k
      · rw [hlk, hB]; simp
      · rwa [if_neg hlk] at hl
    exact h.ne l m (hf l hl) (hf m hm) he
theorem wpAny_of_keptX {w0 : World} {Q : St → Bx → Prop} {Q' : Exit → Act → World → Prop} (hQ : ∀ a B ρ w, FitsX X w0 ρ B w → Q a B → Q' .normal (a ρ) w) :
    ∀ (fuel : Nat) (listed : Array Bool) (a : St) (B : Bx) (ρ : Nat → Nat) (w : World), FitsX X w0 ρ B w → FreeOf listed a →
    wpAnyK P md ops (BelowX X w0) Q fuel listed a B → wpAny P md ops Q' fuel listed (a ρ) w
  | 0, _, _, _, _, _, hf, _, h => ⟨h.1, hQ _ _ _ _ hf h.2⟩
  | fuel + 1, listed, a, B, ρ, w, hf, hfr, h => by
    refine ⟨fun h0 => hQ _ _ _ _ hf (h.1 h0), fun i hi => ?_⟩
    have h1 := h.2 i hi
    obtain ⟨hun, o, ho, _⟩ := mem_ready.1 hi
    unfold kOp at h1
    simp only [ho] at h1
    obtain ⟨x, hp, hy, hK⟩ := h1
    have hfr' := hfr.put hun o.dst x
    unfold wpOp
    simp only [ho]
    cases x with
    | val v =>
      simp only [YieldsK] at hy
      rcases hy with hy | ⟨hw, rfl⟩
      · obtain ⟨hw, hr⟩ := hy ρ
        simp only [hw, if_true]
        refine .inl ?_
        have h3 := hr w hf.below
        unfold Oper.wp
        generalize (execOp (a ρ).eval o).run P w = r at *
        cases r with
        | ok n w' =>
          cases n <;> simp only [keptUpon] at h3 <;> simp only [Oper.upon]
          case value u =>
            obtain ⟨e1, e2⟩ := h3
            rw [e1, e2]
            exact wpAny_of_keptX hQ fuel _ _ B ρ w hf hfr' hK
          case skip =>
            obtain ⟨e1, e2⟩ := h3
            rw [e1, ← e2]
            exact wpAny_of_keptX hQ fuel _ _ B ρ w hf hfr' hK
          case enter f args =>
            obtain ⟨e1, hc⟩ := h3
            rw [e1]
            exact hc.mono fun e w'' ⟨he, hw''⟩ => by subst he; exact wpAny_of_keptX hQ fuel _ _ B ρ w'' (hf.go hw'') hfr' hK
        | halt x w' => simp only [keptUpon] at h3
      · simp only [hw ρ, Bool.false_eq_true, if_false]
        exact wpAny_of_keptX hQ fuel _ _ B ρ w hf hfr' hK
    | box mk ob =>
      simp only [YieldsK] at hy
      obtain ⟨hw, hr⟩ := hy ρ
      simp only [hw, if_true]
      refine .inl ?_
      unfold Oper.wp
      rw [hr w hf.below]
      simp only [Oper.upon]
      have h5 := wpAny_of_keptX hQ fuel _ _ _ (upd ρ i w.heap.size) (w.alloc ob) (hf.alloc i mk ob) hfr' hK
      have e1 : (a (upd ρ i w.heap.size)).put o.dst ((Out.box mk ob).at i (upd ρ i w.heap.size)) = (a ρ).put o.dst (mk w.heap.size) := by
        show (a (upd ρ i w.heap.size)).put o.dst (mk (upd ρ i w.heap.size i)) = _
        rw [hfr i ρ _ hun]
        have : upd ρ i w.heap.size i = w.heap.size := if_pos rfl
        rw [this]
      rwa [e1] at h5
    | put k ob0 ob =>
      obtain ⟨hw, hr⟩ := hy.2 ρ
      simp only [hw, if_true]
      refine .inl ?_
      obtain ⟨w', hr1, hr2⟩ := hr w hf.below (hf.box k _ _ hp).2
      unfold Oper.wp
      rw [hr1]
      simp only [Oper.upon]
      exact wpAny_of_keptX hQ fuel _ _ _ ρ w' (hf.turn (i := i) hp hr2) hfr' hK
theorem kept_endX {Q : Exit → Act → World → Prop} {C : World → Prop} {i : Nat} {a : St} {B : Bx} {w : World} (h : ∀ ρ w', FitsX X w ρ B w' → Q .normal (a ρ) w') : wpKept P ops C (fun a' B => ∀ ρ w', FitsX X w ρ B w' → Q .normal (a' ρ) w') [] i a B := h
end
end Go.Proofs.YtgnppdkeiihlfaaGreatDoor
namespace Go.Proofs.YtgnppdkeiihlfaaGreatDoor
open Go.RowKit Num
abbrev Fp2 := List UInt8 × List UInt8
def FrAt (w : World) (A : Option Addr) (rs : List Fp2) : Prop := ∀ (i : Nat) (r : Fp2), rs[i]? = some r → ∃ b o, A = some ⟨b, o, none⟩ ∧ b < w.heap.size ∧ w.cell? ⟨b, o + i * 2, none⟩ = some (.string ⟨r.1.toArray⟩) ∧ w.cell? ⟨b, o + i * 2 + 1, none⟩ = some (.string ⟨r.2.toArray⟩)
theorem FrAt.below {w w' : World} {A : Option Addr} {rs : List Fp2} (h : FrAt w A rs) (hb : Below w.heap.size w w') : FrAt w' A rs := fun i t ht => by
  obtain ⟨b, o, hA, hl, h0, h1⟩ := h i t ht
  exact ⟨b, o, hA, Nat.lt_of_lt_of_le hl hb.size, (hb.cell (p := ⟨b, _, none⟩) hl).trans h0, (hb.cell (p := ⟨b, _, none⟩) hl).trans h1⟩
def frV (r : Fp2) : Value := .agg #[.string ⟨r.1.toArray⟩, .string ⟨r.2.toArray⟩]
set_option maxHeartbeats 2000000 in
set_option maxRecDepth 100000 in
theorem idxFr (f : Nat) (hcall : ∀ (args : Array Value) w, (callFunc f args).run Tryz.prog w = .ok (.enter f args) w) (p : Fp2 → Bool) (A : Option Addr) (rs : List Fp2) (n c : Nat) (w : World) (hn : rs.length = n) (hn2 : n ≤ 1000000000) (h : FrAt w A rs)
    (hp : ∀ x ∈ rs, ∀ w', Below w.heap.size w w' → Calls Tryz.prog f #[frV x] w' fun e w'' => e = .returned (.bool (p x)) ∧ Below w'.heap.size w' w'') :
    Calls Tryz.prog 128 #[.slice A n c, .func (Fn.func f) #[] #[]] w fun e w' => ∃ z : Int, e = .returned (.int .i64 z) ∧ decide (0 ≤ z) = rs.any p ∧ Below w.heap.size w w' := by
  have HI := Lib.hid h
  have HP := Lib.hid hp
  have hn1 : rs.length ≤ n := by omega
  have hn3 : n ≤ rs.length := by omega
  clear h hp hn
  go_enter Tryz.func128, Tryz.ntmps128
  go_wp2_with fail
  go_loopw [8] (fun iv wr => ∃ k : Nat, k ≤ n ∧ iv = .int .i64 (k : Int) ∧ Hid (rs.any p = (rs.drop k).any p) ∧ Below w.heap.size w wr) (fun iv _ => n - (intOf iv).toNat)
  case atStart => exact ⟨0, Nat.zero_le _, rfl, rfl, Below.refl _ _⟩
  case round =>
    obtain ⟨k, hk, rfl, HK, hb⟩ := hrel
    by_cases hlt : k < n
    · obtain ⟨x, hx⟩ : ∃ x, rs[k]? = some x := ⟨_, List.getElem?_eq_getElem (by omega)⟩
      obtain ⟨b, o, rfl, hbs, p0, p1⟩ := (HI.out.below hb) k x hx
      have hd : rs.drop k = x :: rs.drop (k + 1) := by
        obtain ⟨hk2, rfl⟩ := List.getElem?_eq_some_iff.1 hx
        exact List.drop_eq_getElem_cons hk2
      have HD := Lib.hid hd
      have CP := HP.out x (List.mem_of_getElem? hx) wr hb
      unfold frV at CP
      have CP := Lib.hid CP
      clear hx hd
      go_wp2_with fail
      ((with_reducible refine CP.out.mono ?_); rintro e w2 ⟨rfl, hb2⟩)
      replace hb := bto hb hb2
      clear hb2 CP p0 p1
      by_cases hq : p x = true
      · have HV : Hid (decide (0 ≤ (k : Int)) = rs.any p) := by show _ = _; rw [HK.out, HD.out, List.any_cons, hq, decide_eq_true (by omega)]; rfl
        rw [hq]
        clear hq HK HD
        go_wp2
        go_ret
        exact ⟨_, rfl, HV.out, hb⟩
      · have HV : Hid (rs.any p = (rs.drop (k + 1)).any p) := by show _ = _; rw [HK.out, HD.out, List.any_cons, not_true_b hq, Bool.false_or]
        rw [not_true_b hq]
        clear hq HK HD
        go_wp2
        go_roundw
        case rel => exact ⟨k + 1, by omega, by go_num, HV, hb⟩
        case measure => simp [intOf]; omega
    · have HV : Hid (decide (0 ≤ (-1 : Int)) = rs.any p) := by show _ = _; rw [HK.out, List.drop_of_length_le (by omega)]; rfl
      go_wp2
      go_ret
      exact ⟨_, rfl, HV.out, hb⟩
set_option maxHeartbeats 2000000 in
set_option maxRecDepth 100000 in
theorem conFr (f : Nat) (hcall : ∀ (args : Array Value) w, (callFunc f args).run Tryz.prog w = .ok (.enter f args) w) (p : Fp2 → Bool) (A : Option Addr) (rs : List Fp2) (n c : Nat) (w : World) (hn : rs.length = n) (hn2 : n ≤ 1000000000) (h : FrAt w A rs)
    (hp : ∀ x ∈ rs, ∀ w', Below w.heap.size w w' → Calls Tryz.prog f #[frV x] w' fun e w'' => e = .returned (.bool (p x)) ∧ Below w'.heap.size w' w'') :
    Calls Tryz.prog 62 #[.slice A n c, .func (Fn.func f) #[] #[]] w fun e w' => e = .returned (.bool (rs.any p)) ∧ Below w.heap.size w w' := by
  have C1 := Lib.hid (idxFr f hcall p A rs n c w hn hn2 h hp)
  clear hn h hp
  go_enter Tryz.func62, Tryz.ntmps62
  go_wp2_with fail
  refine C1.out.mono ?_
  rintro e w2 ⟨z, rfl, hz, hb⟩
  have HZ := Lib.hid hz
  clear hz
  by_cases g : 0 ≤ z
  · have e1 : decide (0 ≤ z) = true := decide_eq_true g
    go_wp2
    go_ret
    exact ⟨by rw [← HZ.out, e1]; rfl, hb⟩
  · have e1 : decide (0 ≤ z) = false := decide_eq_false g
    go_wp2
    go_ret
    exact ⟨by rw [← HZ.out, e1]; rfl, hb⟩
def longF (r : Fp2) : Bool := decide (13 < r.1.length) || decide (13 < r.2.length)
theorem longF_no {r : Fp2} (h : longF r = false) : r.1.length ≤ 13 ∧ r.2.length ≤ 13 := by
  unfold longF at h; simp at h; omega
set_option maxHeartbeats 2000000 in
set_option maxRecDepth 100000 in
theorem longClo (r : Fp2) (w : World) : Calls Tryz.prog 63 #[frV r] w fun e w' => e = .returned (.bool (longF r)) ∧ Below w.heap.size w w' := by
  unfold frV
  have hb := below_alloc w (.cells #[.string ⟨r.1.toArray⟩, .string ⟨r.2.toArray⟩] 25)
  have x1 := FBox.new w (.string ⟨r.1.toArray⟩) (.string ⟨r.2.toArray⟩) 25
  have q0 := x1.c0
  have q1 := x1.c1
  by_cases g1 : 13 < r.1.length
  · have e1 : decide (13 < r.1.length) = true := decide_eq_true g1
    have e2 : decide ((13 : Int) < (r.1.length : Int)) = true := decide_eq_true (by omega)
    have HV : Hid (longF r = true) := by unfold longF; show _ = _; rw [e1]; rfl
    clear g1
    go_enter Tryz.func63, Tryz.ntmps63
    go_wp2
    go_ret
    exact ⟨by rw [HV.out]; rfl, hb⟩
  have e1 : decide (13 < r.1.length) = false := decide_eq_false g1
  have e2 : decide ((13 : Int) < (r.1.length : Int)) = false := decide_eq_false (by omega)
  have HV : Hid (longF r = decide (13 < r.2.length)) := by unfold longF; show _ = _; rw [e1]; rfl
  clear g1
  by_cases g2 : 13 < r.2.length
  · have e3 : decide (13 < r.2.length) = true := decide_eq_true g2
    have e4 : decide ((13 : Int) < (r.2.length : Int)) = true := decide_eq_true (by omega)
    clear g2
    go_enter Tryz.func63, Tryz.ntmps63
    go_wp2
    go_ret
    exact ⟨by rw [HV.out, e3]; rfl, hb⟩
  have e3 : decide (13 < r.2.length) = false := decide_eq_false g2
  have e4 : decide ((13 : Int) < (r.2.length : Int)) = false := decide_eq_false (by omega)
  clear g2
  go_enter Tryz.func63, Tryz.ntmps63
  go_wp2
  go_ret
  exact ⟨by rw [HV.out, e3]; rfl, hb⟩
theorem enter_l1 (args : Array Value) (w : World) : (callFunc 63 args).run Tryz.prog w = .ok (.enter 63 args) w := by kernel_rfl
set_option maxHeartbeats 2000000 in
set_option maxRecDepth 100000 in
theorem lLong (A : Option Addr) (rs : List Fp2) (n c : Nat) (w : World) (hn : rs.length = n) (hn2 : n ≤ 1000000000) (h : FrAt w A rs) :
    Calls Tryz.prog 15 #[.slice A n c] w fun e w' => e = .returned (.bool (rs.any longF)) ∧ Below w.heap.size w w' := by
  have C1 := Lib.hid (conFr _ enter_l1 longF A rs n c w hn hn2 h (fun x _ w' _ => longClo x w'))
  clear hn h
  go_enter Tryz.func15, Tryz.ntmps15
  go_wp2_with fail
  refine C1.out.mono ?_
  rintro e w2 ⟨rfl, hb⟩
  obtain ⟨q, hq⟩ : ∃ q, q = rs.any longF := ⟨_, rfl⟩
  rw [← hq]
  have HQ := Lib.hid hq
  clear hq C1
  go_wp2
  go_ret
  exact ⟨by rw [← HQ.out]; rfl, hb⟩
end Go.Proofs.YtgnppdkeiihlfaaGreatDoor
namespace Go.Proofs.YtgnppdkeiihlfaaGreatDoor
open Go.RowKit Num
theorem isq_nil : IsQ [] [] 0 := ⟨by decide, by decide, by decide +kernel⟩
set_option maxHeartbeats 1000000 in
set_option maxRecDepth 100000 in
theorem fSign {l l' : List UInt8} {q : Rat} (h : IsQ l l' q) {c : Int} (ec : cmpQ q 0 = c) : Ret 72 #[(Value.agg #[Value.string ⟨List.toArray l⟩, Value.string ⟨List.toArray l'⟩])] (.int .i64 c) := fun w hG => by
  have C1 := Lib.hid (rCompare h isq_nil ec)
  have x1 := FBox.new w (.string ⟨l.toArray⟩) (.string ⟨l'.toArray⟩) 25
  have hb := below_alloc w (.cells #[.string ⟨l.toArray⟩, .string ⟨l'.toArray⟩] 25)
  have q0 := x1.c0
  have q1 := x1.c1
  clear h ec
  go_enter Tryz.func72, Tryz.ntmps72
  go_wp2_with fail
  ((with_reducible refine (C1.out.of hG hb).mono ?_); rintro e w2 ⟨rfl, hb2⟩)
  replace hb := bto hb hb2
  clear hb2 C1 x1 q0 q1
  go_wp2
  go_ret
  exact ⟨rfl, hb⟩
set_option maxHeartbeats 2000000 in
set_option maxRecDepth 100000 in
theorem fGrow {l l' m m' : List UInt8} {p q r : Rat} {k : Nat} (h : IsQ l l' p) (h' : IsQ m m' q) (b : Bd k (p * q)) (hk : k ≤ 90000) (er : 1 + p * q = r) : Ret 71 #[(Value.agg #[Value.string ⟨List.toArray l⟩, Value.string ⟨List.toArray l'⟩]), (Value.agg #[Value.string ⟨List.toArray m⟩, Value.string ⟨List.toArray m'⟩])] (Value.agg #[Value.string ⟨List.toArray (fN r)⟩, Value.string ⟨List.toArray (fD r)⟩]) := fun w hG => by
  have c1 := rOf (l := [49]) (by decide) (show val [49] = 1 by decide)
  have c2 := rMul h h' rfl
  have c3 := rAdd (isq_fr (q := ((1 : Int) : Rat)) (k := 1) (by constructor <;> decide) (by decide)) (isq_fr b (by omega)) er
  generalize fN (p * q) = M at *
  generalize fD (p * q) = E at *
  generalize fN ((1 : Int) : Rat) = M1 at *
  generalize fD ((1 : Int) : Rat) = E1 at *
  generalize fN r = N at *
  generalize fD r = D at *
  have C1 := Lib.hid c1
  have C2 := Lib.hid c2
  have C3 := Lib.hid c3
  have x2 := FBox.new w (.string ⟨l.toArray⟩) (.string ⟨l'.toArray⟩) 25
  have hb0 := below_alloc w (.cells #[.string ⟨l.toArray⟩, .string ⟨l'.toArray⟩] 25)
  obtain ⟨w1, hw1⟩ : ∃ w1, w1 = w.alloc (.cells #[.string ⟨l.toArray⟩, .string ⟨l'.toArray⟩] 25) := ⟨_, rfl⟩
  have hsz1 : w.heap.size + 1 = w1.heap.size := by rw [hw1]; exact (World.size_alloc _ _).symm
  rw [← hw1] at x2 hb0
  have x3 := FBox.new w1 (.string ⟨m.toArray⟩) (.string ⟨m'.toArray⟩) 25
  have hb1 := below_alloc w1 (.cells #[.string ⟨m.toArray⟩, .string ⟨m'.toArray⟩] 25)
  obtain ⟨w0, hw0⟩ : ∃ w0, w0 = w1.alloc (.cells #[.string ⟨m.toArray⟩, .string ⟨m'.toArray⟩] 25) := ⟨_, rfl⟩
  have hsz2 : w1.heap.size + 1 = w0.heap.size := by rw [hw0]; exact (World.size_alloc _ _).symm
  rw [← hw0] at x3 hb1
  replace x2 := x2.below hb1
  replace hb0 := bto hb0 hb1
  have hb1 := below_alloc w0 (.cells #[.string ⟨#[]⟩, .string ⟨#[]⟩] 25)
  have hbx := heap_alloc_new w0 (.cells #[.string ⟨#[]⟩, .string ⟨#[]⟩] 25)
  have HW1 := Lib.hid hw1
  have HW0 := Lib.hid hw0
  clear c1 c2 c3 er h h' b hw1 hw0
  go_enter Tryz.func71, Tryz.ntmps71
  go_wp2_with fail
  rw [← HW1.out]
  (try rw [hsz1])
  rw [← HW0.out]
  (try rw [hsz2])
  refine wp_region_kept_at 6 w0.heap.size 4 _ (by kernel_rfl) (by kernel_rfl) (by decide) hb1 (Nat.le_refl _) hbx rfl ?_
  simp only [Act.put, List.setIfInBounds_toArray, List.set_cons_zero, List.set_cons_succ]
  clear hbx hsz1 hsz2
  refine kept_call _ _ _ (fun _ => rfl) (fun ρ w hw => by go_simp; first | done | with_reducible rfl) (fun w hw => C1.out.of hG (bto hb0 hw)) ?_
  simp only [Act.put, List.setIfInBounds_toArray, List.set_cons_zero, List.set_cons_succ, Nat.reduceAdd]
  refine kept_val _ (fun _ => rfl) (fun ρ w hw => by have q0 := (x2.below hw).c0; have q1 := (x2.below hw).c1; go_simp; first | done | with_reducible rfl) ?_
  simp only [Act.put, List.setIfInBounds_toArray, List.set_cons_zero, List.set_cons_succ, Nat.reduceAdd]
  refine kept_val _ (fun _ => rfl) (fun ρ w hw => by have q0 := (x3.below hw).c0; have q1 := (x3.below hw).c1; go_simp; first | done | with_reducible rfl) ?_
  simp only [Act.put, List.setIfInBounds_toArray, List.set_cons_zero, List.set_cons_succ, Nat.reduceAdd]
  refine kept_call _ _ _ (fun _ => rfl) (fun ρ w hw => by go_simp; first | done | with_reducible rfl) (fun w hw => C2.out.of hG (bto hb0 hw)) ?_
  simp only [Act.put, List.setIfInBounds_toArray, List.set_cons_zero, List.set_cons_succ, Nat.reduceAdd]
  refine kept_call _ _ _ (fun _ => rfl) (fun ρ w hw => by go_simp; first | done | with_reducible rfl) (fun w hw => C3.out.of hG (bto hb0 hw)) ?_
  simp only [Act.put, List.setIfInBounds_toArray, List.set_cons_zero, List.set_cons_succ, Nat.reduceAdd]
  refine kept_putK 6 _ _ _ _ _ rfl rfl (fun _ => rfl) (fun ρ w hw q0 q1 q2 q3 => by go_simp; first | done | with_reducible rfl) ?_
  simp only [Act.put, Nat.reduceAdd]
  refine kept_end (fun ρ w3 hF => ?_)
  have hb := bto hb0 hF.below
  have x4 := FBox.ofB (hF.box 6 _ _ rfl).2
  generalize ρ 6 = b4 at *
  clear hF
  have d0 := x4.c0
  have d1 := x4.c1
  go_wp2
  refine bodyPost_ret (v := .agg #[.string ⟨N.toArray⟩, .string ⟨D.toArray⟩]) (by simp [results, Tryz.results71, go_sem, d0, d1]) rfl ?_
  exact ⟨rfl, hb⟩
end Go.Proofs.YtgnppdkeiihlfaaGreatDoor
namespace Go.Proofs.YtgnppdkeiihlfaaGreatDoor
open Go.RowKit Num
def canB (r : Fp2) : Bool := decide (r.1 = fN (fv r.1 r.2) ∧ r.2 = fD (fv r.1 r.2))
theorem canB_eq {r : Fp2} (h : canB r = true) : r.1 = fN (fv r.1 r.2) ∧ r.2 = fD (fv r.1 r.2) := of_decide_eq_true h
set_option maxHeartbeats 1000000 in
set_option maxRecDepth 100000 in
theorem canClo (r : Fp2) (h1 : r.1.length ≤ 1000) (h2 : r.2.length ≤ 1000) (w : World) (hG : Glob w) : Calls Tryz.prog 144 #[frV r] w fun e w' => e = .returned (.bool (!canB r)) ∧ Below w.heap.size w w' := by
  unfold frV
  have hb := below_alloc w (.cells #[.string ⟨r.1.toArray⟩, .string ⟨r.2.toArray⟩] 25)
  have x1 := FBox.new w (.string ⟨r.1.toArray⟩) (.string ⟨r.2.toArray⟩) 25
  have q0 := x1.c0
  have q1 := x1.c1
  have c1 := rCheck (isq_raw h1 h2 (by decide)) (c := if (r.1 = fN (fv r.1 r.2) ∧ r.2 = fD (fv r.1 r.2)) then 0 else 1) rfl
  by_cases g : r.1 = fN (fv r.1 r.2) ∧ r.2 = fD (fv r.1 r.2)
  · rw [if_pos g] at c1
    have HV : Hid (canB r = true) := decide_eq_true g
    have C1 := Lib.hid c1
    clear c1 g
    go_enter Tryz.func144, Tryz.ntmps144
    go_wp2_with fail
    ((with_reducible refine (C1.out.of hG hb).mono ?_); rintro e w2 ⟨rfl, hb2⟩)
    replace hb := bto hb hb2
    clear hb2 C1 x1 q0 q1
    go_wp2
    go_ret
    exact ⟨by rw [HV.out]; rfl, hb⟩
  · rw [if_neg g] at c1
    have HV : Hid (canB r = false) := decide_eq_false g
    have C1 := Lib.hid c1
    clear c1 g
    go_enter Tryz.func144, Tryz.ntmps144
    go_wp2_with fail
    ((with_reducible refine (C1.out.of hG hb).mono ?_); rintro e w2 ⟨rfl, hb2⟩)
    replace hb := bto hb hb2
    clear hb2 C1 x1 q0 q1
    go_wp2
    go_ret
    exact ⟨by rw [HV.out]; rfl, hb⟩
theorem enter_c1 (args : Array Value) (w : World) : (callFunc 144 args).run Tryz.prog w = .ok (.enter 144 args) w := by kernel_rfl
theorem any_not (p : Fp2 → Bool) : ∀ rs : List Fp2, (!rs.any fun r => !p r) = rs.all p
  | [] => rfl
  | r :: t => by rw [List.any_cons, List.all_cons, ← any_not p t]; cases p r <;> simp
set_option maxHeartbeats 2000000 in
set_option maxRecDepth 100000 in
theorem fCanon (A : Option Addr) (rs : List Fp2) (n c : Nat) (w : World) (hG : Glob w) (hn : rs.length = n) (hn2 : n ≤ 1000000000) (h : FrAt w A rs) (hl : ∀ r ∈ rs, r.1.length ≤ 1000 ∧ r.2.length ≤ 1000) :
    Calls Tryz.prog 81 #[.slice A n c] w fun e w' => e = .returned (.bool (rs.all canB)) ∧ Below w.heap.size w w' := by
  have C1 := Lib.hid (conFr _ enter_c1 (fun r => !canB r) A rs n c w hn hn2 h (fun x hx w' hb => canClo x (hl x hx).1 (hl x hx).2 w' (hG.below hb)))
  have HV := Lib.hid (any_not canB rs)
  clear hn h hl
  go_enter Tryz.func81, Tryz.ntmps81
  go_wp2_with fail
  refine C1.out.mono ?_
  rintro e w2 ⟨rfl, hb⟩
  obtain ⟨q, hq⟩ : ∃ q, q = rs.any (fun r => !canB r) := ⟨_, rfl⟩
  rw [← hq]
  have HQ := Lib.hid hq
  clear hq C1
  go_wp2
  go_ret
  exact ⟨by rw [← HV.out, ← HQ.out]; rfl, hb⟩
end Go.Proofs.YtgnppdkeiihlfaaGreatDoor
namespace Go.Proofs.YtgnppdkeiihlfaaGreatDoor
open Num
def upB (fl c m : Int) : Bool :=
  if m = 1 then decide (0 < c) || (decide (c = 0) && decide (fl % 2 ≠ 0))
  else if m = 2 then decide (0 < c) || (decide (c = 0) && decide (0 ≤ fl))
  else if m = 3 then decide (fl < 0)
  else if m = 4 then decide (0 ≤ fl)
  else decide (m = 6)
def halfC (q : Rat) : Int := cmpZ (2 * (q.num % q.den)) q.den
def rnd (q : Rat) (m : Int) : Int := if q.den = 1 then q.floor else if upB q.floor (halfC q) m then q.floor + 1 else q.floor
theorem den_pos' (q : Rat) : (0 : Rat) < ((q.den : Int) : Rat) := by
  have := q.den_pos
  rw [Rat.intCast_natCast]
  exact Rat.natCast_pos.2 this
theorem floor_num (q : Rat) : q.floor = q.num / q.den := Rat.floor_def q
theorem mul_den (q : Rat) : q * ((q.den : Int) : Rat) = (q.num : Rat) := by
  have h : q = Rat.divInt q.num q.den := (Rat.num_divInt_den q).symm
  have hd : (q.den : Int) ≠ 0 := by have := q.den_nz; omega
  obtain ⟨n, hn⟩ : ∃ n, n = q.num := ⟨_, rfl⟩
  obtain ⟨d, hd'⟩ : ∃ d, d = (q.den : Int) := ⟨_, rfl⟩
  rw [← hn, ← hd'] at h ⊢
  rw [← hd'] at hd
  rw [h, Rat.divInt_eq_div, Rat.div_mul_cancel]
  intro e
  have : (d : Rat) = ((0 : Int) : Rat) := e
  exact hd (Rat.intCast_inj.1 this)
theorem rest_den (q : Rat) : (q - q.floor) * ((q.den : Int) : Rat) = ((q.num % q.den : Int) : Rat) := by
  have h := Int.emod_add_mul_ediv q.num q.den
  have h2 : ((q.num % q.den : Int) : Rat) + ((q.den : Int) : Rat) * (q.floor : Rat) = (q.num : Rat) := by
    rw [floor_num]
    have := congrArg (fun z : Int => (z : Rat)) h
    simpa only [Rat.intCast_add, Rat.intCast_mul] using this
  have h3 := mul_den q
  grind
theorem halfC_cases (q : Rat) : (halfC q = 1 ∧ 1 < 2 * (q - q.floor)) ∨ (halfC q = 0 ∧ 2 * (q - q.floor) = 1) ∨ (halfC q = -1 ∧ 2 * (q - q.floor) < 1) := by
  have hd := den_pos' q
  have hr := rest_den q
  obtain ⟨r, e⟩ : ∃ r, r = q.num % q.den := ⟨_, rfl⟩
  unfold halfC cmpZ
  rw [← e] at hr ⊢
  obtain ⟨d, hd'⟩ : ∃ d, d = (q.den : Int) := ⟨_, rfl⟩
  rw [← hd'] at hr hd ⊢
  by_cases h1 : 2 * r < d
  · right; right
    refine ⟨if_pos h1, ?_⟩
    have h2 : ((2 * r : Int) : Rat) < (d : Rat) := Rat.intCast_lt_intCast.2 h1
    rw [Rat.intCast_mul, ← hr] at h2
    have h4 : (2 * (q - q.floor)) * (d : Rat) < 1 * (d : Rat) := by grind
    exact (Rat.mul_lt_mul_right hd).1 h4
  · by_cases h2 : d < 2 * r
    · left
      refine ⟨by rw [if_neg h1, if_pos h2], ?_⟩
      have h2 : (d : Rat) < ((2 * r : Int) : Rat) := Rat.intCast_lt_intCast.2 h2
      rw [Rat.intCast_mul, ← hr] at h2
      have h4 : 1 * (d : Rat) < (2 * (q - q.floor)) * (d : Rat) := by grind
      exact (Rat.mul_lt_mul_right hd).1 h4
    · right; left
      refine ⟨by rw [if_neg h1, if_neg h2], ?_⟩
      have h3 : 2 * r = d := by omega
      have h3 : ((2 * r : Int) : Rat) = (d : Rat) := congrArg (fun z : Int => (z : Rat)) h3
      rw [Rat.intCast_mul, ← hr] at h3
      have h4 : (2 * (q - q.floor) - 1) * (d : Rat) = 0 := by grind
      rcases Rat.mul_eq_zero.1 h4 with h | h
      · grind
      · grind
theorem den_one (q : Rat) : q.den = 1 ↔ q = q.floor := by
  constructor
  · intro h
    have h2 := mul_den q
    have : q.floor = q.num := by rw [floor_num, h]; simp
    rw [this, ← h2, h]; simp
  · intro h
    rw [h]; rfl
theorem fl_le (q : Rat) : (q.floor : Rat) ≤ q := Rat.floor_le q
theorem lt_fl (q : Rat) : q < (q.floor : Rat) + 1 := by have := Rat.lt_floor_add_one q; simpa using this
theorem fl_neg (q : Rat) : q < 0 ↔ q.floor < 0 := by
  have h1 := fl_le q
  have h2 := lt_fl q
  constructor
  · intro h
    have : (q.floor : Rat) < ((0 : Int) : Rat) := by grind
    exact Rat.intCast_lt_intCast.1 this
  · intro h
    have : q.floor + 1 ≤ 0 := by omega
    have : ((q.floor + 1 : Int) : Rat) ≤ ((0 : Int) : Rat) := Rat.intCast_le_intCast.2 this
    have : (q.floor : Rat) + 1 ≤ 0 := by simpa [Rat.intCast_add] using this
    grind
theorem fl_uniq {q : Rat} {z : Int} (h1 : (z : Rat) ≤ q) (h2 : q < (z : Rat) + 1) : q.floor = z := by
  have h3 := fl_le q
  have h4 := lt_fl q
  have a1 : (z : Rat) < ((q.floor + 1 : Int) : Rat) := by rw [Rat.intCast_add]; grind
  have a2 : (q.floor : Rat) < ((z + 1 : Int) : Rat) := by rw [Rat.intCast_add]; grind
  have b1 := Rat.intCast_lt_intCast.1 a1
  have b2 := Rat.intCast_lt_intCast.1 a2
  omega
theorem rnd_or (q : Rat) (m : Int) : rnd q m = q.floor ∨ (rnd q m = q.floor + 1 ∧ q ≠ q.floor) := by
  unfold rnd
  by_cases h : q.den = 1
  · rw [if_pos h]; exact .inl rfl
  · rw [if_neg h]
    split
    · exact .inr ⟨rfl, fun e => h ((den_one q).2 e)⟩
    · exact .inl rfl
theorem rnd_int (z : Int) (m : Int) : rnd (z : Rat) m = z := by
  unfold rnd; rw [if_pos (Rat.den_intCast z)]; exact Rat.floor_intCast z
theorem rnd_half (q : Rat) (m : Int) (hm : m = 1 ∨ m = 2) : 2 * (q - rnd q m) ≤ 1 ∧ -1 ≤ 2 * (q - rnd q m) := by
  have h1 := fl_le q
  have h2 := lt_fl q
  unfold rnd
  by_cases h : q.den = 1
  · rw [if_pos h]; have := (den_one q).1 h; constructor <;> grind
  · rw [if_neg h]
    rcases halfC_cases q with ⟨e, h3⟩ | ⟨e, h3⟩ | ⟨e, h3⟩
    · have : upB q.floor (halfC q) m = true := by rcases hm with rfl | rfl <;> simp [upB, e]
      rw [this, if_pos rfl, Rat.intCast_add]; constructor <;> grind
    · split
      · rw [Rat.intCast_add]; constructor <;> grind
      · constructor <;> grind
    · have : upB q.floor (halfC q) m = false := by rcases hm with rfl | rfl <;> simp [upB, e]
      rw [this, if_neg (by decide)]; constructor <;> grind
theorem fl_neg_of (q : Rat) : (-q).floor = if q.den = 1 then -q.floor else -q.floor - 1 := by
  have h1 := fl_le q
  have h2 := lt_fl q
  by_cases h : q.den = 1
  · rw [if_pos h]
    have := (den_one q).1 h
    refine fl_uniq ?_ ?_ <;> rw [Rat.intCast_neg] <;> grind
  · rw [if_neg h]
    have h0 : q ≠ q.floor := fun e => h ((den_one q).2 e)
    refine fl_uniq ?_ ?_ <;> rw [Rat.intCast_sub, Rat.intCast_neg] <;> grind
theorem half_neg (q : Rat) (h : q.den ≠ 1) : halfC (-q) = -halfC q := by
  have h0 := fl_neg_of q
  rw [if_neg h] at h0
  have a := halfC_cases q
  have b := halfC_cases (-q)
  rw [h0, Rat.intCast_sub, Rat.intCast_neg] at b
  rcases a with ⟨e, h3⟩ | ⟨e, h3⟩ | ⟨e, h3⟩ <;> rcases b with ⟨e', h3'⟩ | ⟨e', h3'⟩ | ⟨e', h3'⟩ <;> grind
theorem rnd_neg (q : Rat) (m : Int) (h1 : 1 ≤ m) (h4 : m ≤ 4) : rnd (-q) m = -rnd q m := by
  unfold rnd
  rw [Rat.neg_den, fl_neg_of]
  by_cases h : q.den = 1
  · rw [if_pos h, if_pos h, if_pos h]
  · rw [if_neg h, if_neg h, if_neg h, half_neg q h]
    have hm : m = 1 ∨ m = 2 ∨ m = 3 ∨ m = 4 := by omega
    rcases halfC_cases q with ⟨e, -⟩ | ⟨e, -⟩ | ⟨e, -⟩ <;> rw [e] <;> rcases hm with rfl | rfl | rfl | rfl <;> simp only [upB] <;> simp <;> grind
theorem rnd_le (q : Rat) (m : Int) : q.floor ≤ rnd q m ∧ rnd q m ≤ q.floor + 1 := by
  rcases rnd_or q m with h | ⟨h, -⟩ <;> omega
theorem fl_mono {p q : Rat} (h : p ≤ q) : p.floor ≤ q.floor := by
  have h1 := fl_le p
  have h2 := lt_fl q
  have : (p.floor : Rat) < ((q.floor + 1 : Int) : Rat) := by rw [Rat.intCast_add]; grind
  have := Rat.intCast_lt_intCast.1 this
  omega
theorem upB_mono {fl c c' m : Int} (h : c ≤ c') (hu : upB fl c m = true) : upB fl c' m = true := by
  unfold upB at *
  grind
theorem half_mono {p q : Rat} (h : p ≤ q) (he : p.floor = q.floor) : halfC p ≤ halfC q := by
  have a := halfC_cases p
  have b := halfC_cases q
  rw [he] at a
  rcases a with ⟨e, h3⟩ | ⟨e, h3⟩ | ⟨e, h3⟩ <;> rcases b with ⟨e', h3'⟩ | ⟨e', h3'⟩ | ⟨e', h3'⟩ <;> grind
theorem rnd_mono {p q : Rat} (m : Int) (h : p ≤ q) : rnd p m ≤ rnd q m := by
  have hf := fl_mono h
  by_cases he : p.floor = q.floor
  · have h1 := rnd_le q m
    by_cases hp : p.den = 1
    · have : rnd p m = p.floor := by unfold rnd; rw [if_pos hp]
      omega
    · by_cases hq : q.den = 1
      · have h2 := (den_one q).1 hq
        have h3 := fl_le p
        rw [he, ← h2] at h3
        have : p = q := Rat.le_antisymm h h3
        rw [this]; exact Int.le_refl _
      · unfold rnd
        rw [if_neg hp, if_neg hq, he]
        by_cases hu : upB q.floor (halfC p) m = true
        · rw [if_pos hu, if_pos (upB_mono (half_mono h he) hu)]; exact Int.le_refl _
        · rw [if_neg hu]; split <;> omega
  · have h1 := rnd_le p m
    have h2 := rnd_le q m
    omega
end Go.Proofs.YtgnppdkeiihlfaaGreatDoor
namespace Go.Proofs.YtgnppdkeiihlfaaGreatDoor
open Go.RowKit Num
section
variable {l l' : List UInt8}
theorem riDiv (hl : l.length ≤ 100000000) (hl' : l'.length ≤ 100000000) (h0 : val l' ≠ 0) {q r : Int} (e : divZ (val l) (val l') = q) (e' : modZ (val l) (val l') = r) : Ret 201 #[.string ⟨l.toArray⟩, .string ⟨l'.toArray⟩] (.tuple #[.string ⟨(canon q).toArray⟩, .string ⟨(canon r).toArray⟩, .int .i64 0]) := fun w hG => by
  subst e; subst e'; exact idiv_any l l' w hl hl' hG h0
theorem riNeg (hl : l.length ≤ 100000000) {z : Int} (e : -val l = z) : Ret 23 #[.string ⟨l.toArray⟩] (.string ⟨(canon z).toArray⟩) := fun w hG => by
  subst e; exact neg_any l w hl hG
end
theorem str_nil {z : Int} (h : z = 0) : (canon z == []) = true ∧ (canon z).isEmpty = true := by rw [h]; decide
theorem str_ne {z : Int} (h : z ≠ 0) : (canon z == []) = false ∧ (canon z).isEmpty = false := by
  have : canon z ≠ [] := fun e => h ((canon_eq_nil z).1 e)
  exact ⟨by rw [beq_eq_false_iff_ne]; exact this, by rw [List.isEmpty_eq_false_iff]; exact this⟩
theorem canon_len_of {z : Int} {k : Nat} (h : z.natAbs < 10 ^ k) {n : Nat} (hn : k + 1 ≤ n) : (canon z).length ≤ n := Nat.le_trans (canon_len_le _ _ h) hn
set_option maxHeartbeats 1000000 in
set_option maxRecDepth 100000 in
theorem dEven {l : List UInt8} (hl : l.length ≤ 1000000) {z : Int} (e : val l = z) : Ret 202 #[.string ⟨l.toArray⟩] (.bool (decide (z % 2 = 0))) := fun w hG => by
  have c1 := riDiv (l := l) (l' := [50]) (by omega) (by decide) (by decide) rfl (show modZ (val l) (val [50]) = z % 2 by rw [e]; rfl)
  generalize divZ (val l) (val [50]) = q at c1
  have hb := Below.refl w.heap.size w
  have H1 := Lib.hid c1
  clear c1 e
  by_cases h : z % 2 = 0
  · obtain ⟨e1, e2⟩ := str_nil h
    rw [decide_eq_true h]
    generalize z % 2 = r at *
    go_enter Tryz.func202, Tryz.ntmps202
    go_wp2_with fail
    ((with_reducible refine (H1.out.of hG hb).mono ?_); rintro e w1 ⟨rfl, hb2⟩)
    go_wp2
    go_ret
    exact ⟨rfl, bto hb hb2⟩
  · obtain ⟨e1, e2⟩ := str_ne h
    rw [decide_eq_false h]
    generalize z % 2 = r at *
    go_enter Tryz.func202, Tryz.ntmps202
    go_wp2_with fail
    ((with_reducible refine (H1.out.of hG hb).mono ?_); rintro e w1 ⟨rfl, hb2⟩)
    go_wp2
    go_ret
    exact ⟨rfl, bto hb hb2⟩
structure RndF (q : Rat) (fl r c s : Int) : Prop where
  efl : q.floor = fl
  er : q.num % q.den = r
  ec : cmpZ (r + r) q.den = c
  es : cmpZ q.num 0 = s
theorem rndF (q : Rat) : RndF q q.floor (q.num % q.den) (halfC q) (cmpZ q.num 0) := ⟨rfl, rfl, by unfold halfC; congr 1; omega, rfl⟩
theorem rest_zero (q : Rat) : q.num % q.den = 0 ↔ q.den = 1 := by
  rw [den_one]
  have h := rest_den q
  have hd := den_pos' q
  constructor
  · intro e
    rw [e] at h
    rcases Rat.mul_eq_zero.1 h with h1 | h1
    · grind
    · grind
  · intro e
    rw [← e, Rat.sub_self, Rat.zero_mul] at h
    exact (Rat.intCast_inj.1 (h.symm.trans rfl))
theorem sgn_fl (q : Rat) : cmpZ q.num 0 < 0 ↔ q.floor < 0 := by
  rw [← fl_neg, Rat.lt_iff]
  unfold cmpZ
  simp
  split
  · simp_all
  · split <;> simp_all
theorem rnd_whole {q : Rat} {fl r c s : Int} (H : RndF q fl r c s) (h : r = 0) (m : Int) : rnd q m = fl := by
  unfold rnd; rw [if_pos ((rest_zero q).1 (H.er.trans h)), H.efl]
theorem rnd_up {q : Rat} {fl r c s : Int} (H : RndF q fl r c s) (h : r ≠ 0) {m : Int} (hu : upB fl c m = true) : rnd q m = fl + 1 := by
  have hc : halfC q = c := by rw [← H.ec]; unfold halfC; rw [H.er]; congr 1; omega
  unfold rnd; rw [if_neg (fun e => h (H.er.symm.trans ((rest_zero q).2 e))), H.efl, hc, if_pos hu]
theorem rnd_dn {q : Rat} {fl r c s : Int} (H : RndF q fl r c s) (h : r ≠ 0) {m : Int} (hu : upB fl c m = false) : rnd q m = fl := by
  have hc : halfC q = c := by rw [← H.ec]; unfold halfC; rw [H.er]; congr 1; omega
  unfold rnd; rw [if_neg (fun e => h (H.er.symm.trans ((rest_zero q).2 e))), H.efl, hc, if_neg (by rw [hu]; decide)]
theorem mod_den (q : Rat) : modZ q.num q.den = q.num % q.den := by unfold modZ; rw [if_pos (by have := q.den_nz; omega)]
theorem div_den (q : Rat) : divZ q.num q.den = q.floor := by unfold divZ; rw [if_pos (by have := q.den_nz; omega), floor_num]
theorem fl_abs (q : Rat) : q.floor.natAbs ≤ q.num.natAbs := by rw [floor_num]; exact Int.natAbs_ediv_le_natAbs _ _
theorem mod_abs (q : Rat) : (q.num % q.den).natAbs < q.den := by
  have h := q.den_nz
  have h1 := Int.emod_nonneg q.num (b := q.den) (by omega)
  have h2 := Int.emod_lt_of_pos q.num (b := q.den) (by omega)
  omega
set_option maxHeartbeats 2000000 in
set_option maxRecDepth 100000 in
theorem rRound_w1 {l l' : List UInt8} {q : Rat} {k : Nat} (h : IsQ l l' q) (b : Bd k q) (hk : k ≤ 90000) (m : Int) (hm : m = 1) (h0 : q.num % q.den = 0) : Ret 136 #[(Value.agg #[Value.string ⟨List.toArray l⟩, Value.string ⟨List.toArray l'⟩]), .int .i64 m] (.tuple #[.string ⟨(canon (rnd q m)).toArray⟩, .int .i64 0]) := fun w hG => by
  have c1 := rParts h
  have hbq := b
  have hd0 : (q.den : Int) ≠ 0 := by have := q.den_nz; omega
  have hfl := Nat.lt_of_le_of_lt (fl_abs q) b.1
  have hmd := Nat.lt_trans (mod_abs q) b.2
  have hde : (q.den : Int).natAbs < 10 ^ k := by rw [Int.natAbs_natCast]; exact b.2
  have hrr : (q.num % q.den + q.num % q.den).natAbs < 10 ^ (k + 1) := by rw [Nat.pow_succ]; omega
  have c2 := riDiv (l := fN q) (l' := canon q.den) (by have := (bd_len b).1; omega) (canon_len_of hde (by omega)) (by rw [val_canon]; exact hd0) (show divZ (val (fN q)) (val (canon q.den)) = q.floor by rw [val_fN, val_canon, div_den]) (show modZ (val (fN q)) (val (canon q.den)) = q.num % q.den by rw [val_fN, val_canon, mod_den])
  have c3 := riAdd (l := canon q.floor) (l' := [49]) (canon_len_of hfl (by omega)) (by decide) (show val (canon q.floor) + val [49] = q.floor + 1 by rw [val_canon]; rfl)
  have c4 := riCompare (l := fN q) (l' := []) (by have := (bd_len b).1; omega) (by decide) (show cmpZ (val (fN q)) (val []) = cmpZ q.num 0 by rw [val_fN]; rfl)
  have c5 := riAdd (l := canon (q.num % q.den)) (l' := canon (q.num % q.den)) (canon_len_of hmd (by omega)) (canon_len_of hmd (by omega)) (show val (canon (q.num % q.den)) + val (canon (q.num % q.den)) = q.num % q.den + q.num % q.den by rw [val_canon])
  have c6 := riCompare (l := canon (q.num % q.den + q.num % q.den)) (l' := canon q.den) (canon_len_of hrr (by omega)) (canon_len_of hde (by omega)) (show cmpZ (val (canon (q.num % q.den + q.num % q.den))) (val (canon q.den)) = halfC q by rw [val_canon, val_canon]; exact (rndF q).ec)
  have cE := dEven (l := canon q.floor) (canon_len_of hfl (by omega)) (val_canon q.floor)
  have hf := rndF q
  have hsf0 := sgn_fl q
  have x2 := FBox.new w (.string ⟨l.toArray⟩) (.string ⟨l'.toArray⟩) 25
  have hb := below_alloc w (.cells #[.string ⟨l.toArray⟩, .string ⟨l'.toArray⟩] 25)
  clear hbq hd0 hfl hmd hde hrr
  generalize q.floor = fl at *
  generalize q.num % q.den = r at *
  generalize halfC q = c at *
  generalize cmpZ q.num 0 = s at *
  have C1 := Lib.hid c1
  have C2 := Lib.hid c2
  have C3 := Lib.hid c3
  have C4 := Lib.hid c4
  have C5 := Lib.hid c5
  have C6 := Lib.hid c6
  have HE := Lib.hid cE
  have HF := Lib.hid hf
  have hsf := Lib.hid hsf0
  clear c1 c2 c3 c4 c5 c6 cE hf b h hsf0
  obtain ⟨e1, e2⟩ := str_nil h0
  have hr := Lib.hid h0
  clear h0 hk
  go_enter Tryz.func136, Tryz.ntmps136
  have qx2_0 := x2.c0
  have qx2_1 := x2.c1
  go_wp2_with fail
  ((with_reducible refine (C1.out.of hG hb).mono ?_); rintro e w2 ⟨rfl, hb2⟩)
  clear qx2_0 qx2_1
  replace x2 := x2.below hb2
  replace hb := bto hb hb2
  clear hb2
  go_wp2_with fail
  ((with_reducible refine (C2.out.of hG hb).mono ?_); rintro e w3 ⟨rfl, hb3⟩)
  replace x2 := x2.below hb3
  replace hb := bto hb hb3
  clear hb3
  go_wp2_with fail
  ((with_reducible refine (C4.out.of hG hb).mono ?_); rintro e w4 ⟨rfl, hb4⟩)
  replace x2 := x2.below hb4
  replace hb := bto hb hb4
  clear hb4
  go_wp2_with fail
  ((with_reducible refine (C5.out.of hG hb).mono ?_); rintro e w5 ⟨rfl, hb5⟩)
  replace x2 := x2.below hb5
  replace hb := bto hb hb5
  clear hb5
  go_wp2_with fail
  ((with_reducible refine (C6.out.of hG hb).mono ?_); rintro e w6 ⟨rfl, hb6⟩)
  replace x2 := x2.below hb6
  replace hb := bto hb hb6
  clear hb6
  clear x2
  clear e1 e2
  subst hm
  by_cases g1 : 0 < c
  · have g1' : decide (0 < c) = true := decide_eq_true g1
    have HR := Lib.hid (rnd_whole HF.out hr.out 1)
    clear HF hsf hr
    go_wp2
    go_ret2
    exact ⟨by rw [HR.out]; first | done | rfl, hb⟩
  have g1' : decide (0 < c) = false := decide_eq_false g1
  by_cases g2 : c = 0
  rotate_left
  · have g2' : (c == 0) = false := by rw [beq_eq_false_iff_ne]; exact g2
    have HR := Lib.hid (rnd_whole HF.out hr.out 1)
    clear HF hsf hr
    go_wp2
    go_ret2
    exact ⟨by rw [HR.out]; first | done | rfl, hb⟩
  have g2' : (c == 0) = true := by rw [beq_iff_eq]; exact g2
  by_cases g3 : fl % 2 = 0
  · have g3' : decide (fl % 2 = 0) = true := decide_eq_true g3
    have HR := Lib.hid (rnd_whole HF.out hr.out 1)
    clear HF hsf hr
    go_wp2_with fail
    ((with_reducible refine (HE.out.of hG hb).mono ?_); rintro e w9 ⟨rfl, hb9⟩)
    replace hb := bto hb hb9
    rw [g3']
    go_wp2
    go_ret2
    exact ⟨by rw [HR.out]; first | done | rfl, hb⟩
  · have g3' : decide (fl % 2 = 0) = false := decide_eq_false g3
    have HR := Lib.hid (rnd_whole HF.out hr.out 1)
    clear HF hsf hr
    go_wp2_with fail
    ((with_reducible refine (HE.out.of hG hb).mono ?_); rintro e w9 ⟨rfl, hb9⟩)
    replace hb := bto hb hb9
    rw [g3']
    go_wp2
    go_ret2
    exact ⟨by rw [HR.out]; first | done | rfl, hb⟩
set_option maxHeartbeats 2000000 in
set_option maxRecDepth 100000 in
theorem rRound_w2 {l l' : List UInt8} {q : Rat} {k : Nat} (h : IsQ l l' q) (b : Bd k q) (hk : k ≤ 90000) (m : Int) (hm : m = 2) (h0 : q.num % q.den = 0) : Ret 136 #[(Value.agg #[Value.string ⟨List.toArray l⟩, Value.string ⟨List.toArray l'⟩]), .int .i64 m] (.tuple #[.string ⟨(canon (rnd q m)).toArray⟩, .int .i64 0]) := fun w hG => by
  have c1 := rParts h
  have hbq := b
  have hd0 : (q.den : Int) ≠ 0 := by have := q.den_nz; omega
  have hfl := Nat.lt_of_le_of_lt (fl_abs q) b.1
  have hmd := Nat.lt_trans (mod_abs q) b.2
  have hde : (q.den : Int).natAbs < 10 ^ k := by rw [Int.natAbs_natCast]; exact b.2
  have hrr : (q.num % q.den + q.num % q.den).natAbs < 10 ^ (k + 1) := by rw [Nat.pow_succ]; omega
  have c2 := riDiv (l := fN q) (l' := canon q.den) (by have := (bd_len b).1; omega) (canon_len_of hde (by omega)) (by rw [val_canon]; exact hd0) (show divZ (val (fN q)) (val (canon q.den)) = q.floor by rw [val_fN, val_canon, div_den]) (show modZ (val (fN q)) (val (canon q.den)) = q.num % q.den by rw [val_fN, val_canon, mod_den])
  have c3 := riAdd (l := canon q.floor) (l' := [49]) (canon_len_of hfl (by omega)) (by decide) (show val (canon q.floor) + val [49] = q.floor + 1 by rw [val_canon]; rfl)
  have c4 := riCompare (l := fN q) (l' := []) (by have := (bd_len b).1; omega) (by decide) (show cmpZ (val (fN q)) (val []) = cmpZ q.num 0 by rw [val_fN]; rfl)
  have c5 := riAdd (l := canon (q.num % q.den)) (l' := canon (q.num % q.den)) (canon_len_of hmd (by omega)) (canon_len_of hmd (by omega)) (show val (canon (q.num % q.den)) + val (canon (q.num % q.den)) = q.num % q.den + q.num % q.den by rw [val_canon])
  have c6 := riCompare (l := canon (q.num % q.den + q.num % q.den)) (l' := canon q.den) (canon_len_of hrr (by omega)) (canon_len_of hde (by omega)) (show cmpZ (val (canon (q.num % q.den + q.num % q.den))) (val (canon q.den)) = halfC q by rw [val_canon, val_canon]; exact (rndF q).ec)
  have cE := dEven (l := canon q.floor) (canon_len_of hfl (by omega)) (val_canon q.floor)
  have hf := rndF q
  have hsf0 := sgn_fl q
  have x2 := FBox.new w (.string ⟨l.toArray⟩) (.string ⟨l'.toArray⟩) 25
  have hb := below_alloc w (.cells #[.string ⟨l.toArray⟩, .string ⟨l'.toArray⟩] 25)
  clear hbq hd0 hfl hmd hde hrr
  generalize q.floor = fl at *
  generalize q.num % q.den = r at *
  generalize halfC q = c at *
  generalize cmpZ q.num 0 = s at *
  have C1 := Lib.hid c1
  have C2 := Lib.hid c2
  have C3 := Lib.hid c3
  have C4 := Lib.hid c4
  have C5 := Lib.hid c5
  have C6 := Lib.hid c6
  have HE := Lib.hid cE
  have HF := Lib.hid hf
  have hsf := Lib.hid hsf0
  clear c1 c2 c3 c4 c5 c6 cE hf b h hsf0
  obtain ⟨e1, e2⟩ := str_nil h0
  have hr := Lib.hid h0
  clear h0 hk
  go_enter Tryz.func136, Tryz.ntmps136
  have qx2_0 := x2.c0
  have qx2_1 := x2.c1
  go_wp2_with fail
  ((with_reducible refine (C1.out.of hG hb).mono ?_); rintro e w2 ⟨rfl, hb2⟩)
  clear qx2_0 qx2_1
  replace x2 := x2.below hb2
  replace hb := bto hb hb2
  clear hb2
  go_wp2_with fail
  ((with_reducible refine (C2.out.of hG hb).mono ?_); rintro e w3 ⟨rfl, hb3⟩)
  replace x2 := x2.below hb3
  replace hb := bto hb hb3
  clear hb3
  go_wp2_with fail
  ((with_reducible refine (C4.out.of hG hb).mono ?_); rintro e w4 ⟨rfl, hb4⟩)
  replace x2 := x2.below hb4
  replace hb := bto hb hb4
  clear hb4
  go_wp2_with fail
  ((with_reducible refine (C5.out.of hG hb).mono ?_); rintro e w5 ⟨rfl, hb5⟩)
  replace x2 := x2.below hb5
  replace hb := bto hb hb5
  clear hb5
  go_wp2_with fail
  ((with_reducible refine (C6.out.of hG hb).mono ?_); rintro e w6 ⟨rfl, hb6⟩)
  replace x2 := x2.below hb6
  replace hb := bto hb hb6
  clear hb6
  clear x2
  clear e1 e2
  subst hm
  by_cases g1 : 0 < c
  · have g1' : decide (0 < c) = true := decide_eq_true g1
    have HR := Lib.hid (rnd_whole HF.out hr.out 2)
    clear HF hsf hr
    go_wp2
    go_ret2
    exact ⟨by rw [HR.out]; first | done | rfl, hb⟩
  have g1' : decide (0 < c) = false := decide_eq_false g1
  by_cases g2 : c = 0
  rotate_left
  · have g2' : (c == 0) = false := by rw [beq_eq_false_iff_ne]; exact g2
    have HR := Lib.hid (rnd_whole HF.out hr.out 2)
    clear HF hsf hr
    go_wp2
    go_ret2
    exact ⟨by rw [HR.out]; first | done | rfl, hb⟩
  have g2' : (c == 0) = true := by rw [beq_iff_eq]; exact g2
  by_cases g3 : s < 0
  · have g3' : decide (s < 0) = true := decide_eq_true g3
    have g4 := hsf.out.1 g3
    have HR := Lib.hid (rnd_whole HF.out hr.out 2)
    clear HF hsf hr
    go_wp2
    go_ret2
    exact ⟨by rw [HR.out]; first | done | rfl, hb⟩
  · have g3' : decide (s < 0) = false := decide_eq_false g3
    have g4 : 0 ≤ fl := Int.not_lt.1 (fun h => g3 (hsf.out.2 h))
    have HR := Lib.hid (rnd_whole HF.out hr.out 2)
    clear HF hsf hr
    go_wp2
    go_ret2
    exact ⟨by rw [HR.out]; first | done | rfl, hb⟩
set_option maxHeartbeats 2000000 in
set_option maxRecDepth 100000 in
theorem rRound_w3 {l l' : List UInt8} {q : Rat} {k : Nat} (h : IsQ l l' q) (b : Bd k q) (hk : k ≤ 90000) (m : Int) (hm : m = 3 ∨ m = 4 ∨ m = 5 ∨ m = 6) (h0 : q.num % q.den = 0) : Ret 136 #[(Value.agg #[Value.string ⟨List.toArray l⟩, Value.string ⟨List.toArray l'⟩]), .int .i64 m] (.tuple #[.string ⟨(canon (rnd q m)).toArray⟩, .int .i64 0]) := fun w hG => by
  have c1 := rParts h
  have hbq := b
  have hd0 : (q.den : Int) ≠ 0 := by have := q.den_nz; omega
  have hfl := Nat.lt_of_le_of_lt (fl_abs q) b.1
  have hmd := Nat.lt_trans (mod_abs q) b.2
  have hde : (q.den : Int).natAbs < 10 ^ k := by rw [Int.natAbs_natCast]; exact b.2
  have hrr : (q.num % q.den + q.num % q.den).natAbs < 10 ^ (k + 1) := by rw [Nat.pow_succ]; omega
  have c2 := riDiv (l := fN q) (l' := canon q.den) (by have := (bd_len b).1; omega) (canon_len_of hde (by omega)) (by rw [val_canon]; exact hd0) (show divZ (val (fN q)) (val (canon q.den)) = q.floor by rw [val_fN, val_canon, div_den]) (show modZ (val (fN q)) (val (canon q.den)) = q.num % q.den by rw [val_fN, val_canon, mod_den])
  have c3 := riAdd (l := canon q.floor) (l' := [49]) (canon_len_of hfl (by omega)) (by decide) (show val (canon q.floor) + val [49] = q.floor + 1 by rw [val_canon]; rfl)
  have c4 := riCompare (l := fN q) (l' := []) (by have := (bd_len b).1; omega) (by decide) (show cmpZ (val (fN q)) (val []) = cmpZ q.num 0 by rw [val_fN]; rfl)
  have c5 := riAdd (l := canon (q.num % q.den)) (l' := canon (q.num % q.den)) (canon_len_of hmd (by omega)) (canon_len_of hmd (by omega)) (show val (canon (q.num % q.den)) + val (canon (q.num % q.den)) = q.num % q.den + q.num % q.den by rw [val_canon])
  have c6 := riCompare (l := canon (q.num % q.den + q.num % q.den)) (l' := canon q.den) (canon_len_of hrr (by omega)) (canon_len_of hde (by omega)) (show cmpZ (val (canon (q.num % q.den + q.num % q.den))) (val (canon q.den)) = halfC q by rw [val_canon, val_canon]; exact (rndF q).ec)
  have cE := dEven (l := canon q.floor) (canon_len_of hfl (by omega)) (val_canon q.floor)
  have hf := rndF q
  have hsf0 := sgn_fl q
  have x2 := FBox.new w (.string ⟨l.toArray⟩) (.string ⟨l'.toArray⟩) 25
  have hb := below_alloc w (.cells #[.string ⟨l.toArray⟩, .string ⟨l'.toArray⟩] 25)
  clear hbq hd0 hfl hmd hde hrr
  generalize q.floor = fl at *
  generalize q.num % q.den = r at *
  generalize halfC q = c at *
  generalize cmpZ q.num 0 = s at *
  have C1 := Lib.hid c1
  have C2 := Lib.hid c2
  have C3 := Lib.hid c3
  have C4 := Lib.hid c4
  have C5 := Lib.hid c5
  have C6 := Lib.hid c6
  have HE := Lib.hid cE
  have HF := Lib.hid hf
  have hsf := Lib.hid hsf0
  clear c1 c2 c3 c4 c5 c6 cE hf b h hsf0
  obtain ⟨e1, e2⟩ := str_nil h0
  have hr := Lib.hid h0
  clear h0 hk
  go_enter Tryz.func136, Tryz.ntmps136
  have qx2_0 := x2.c0
  have qx2_1 := x2.c1
  go_wp2_with fail
  ((with_reducible refine (C1.out.of hG hb).mono ?_); rintro e w2 ⟨rfl, hb2⟩)
  clear qx2_0 qx2_1
  replace x2 := x2.below hb2
  replace hb := bto hb hb2
  clear hb2
  go_wp2_with fail
  ((with_reducible refine (C2.out.of hG hb).mono ?_); rintro e w3 ⟨rfl, hb3⟩)
  replace x2 := x2.below hb3
  replace hb := bto hb hb3
  clear hb3
  go_wp2_with fail
  ((with_reducible refine (C4.out.of hG hb).mono ?_); rintro e w4 ⟨rfl, hb4⟩)
  replace x2 := x2.below hb4
  replace hb := bto hb hb4
  clear hb4
  go_wp2_with fail
  ((with_reducible refine (C5.out.of hG hb).mono ?_); rintro e w5 ⟨rfl, hb5⟩)
  replace x2 := x2.below hb5
  replace hb := bto hb hb5
  clear hb5
  go_wp2_with fail
  ((with_reducible refine (C6.out.of hG hb).mono ?_); rintro e w6 ⟨rfl, hb6⟩)
  replace x2 := x2.below hb6
  replace hb := bto hb hb6
  clear hb6
  clear x2
  clear e1 e2
  rcases hm with rfl | rfl | rfl | rfl
  · by_cases g3 : s < 0
    · have g3' : decide (s < 0) = true := decide_eq_true g3
      have g4 := hsf.out.1 g3
      have HR := Lib.hid (rnd_whole HF.out hr.out 3)
      clear HF hsf hr
      go_wp2
      go_ret2
      exact ⟨by rw [HR.out]; first | done | rfl, hb⟩
    · have g3' : decide (s < 0) = false := decide_eq_false g3
      have g4 : 0 ≤ fl := Int.not_lt.1 (fun h => g3 (hsf.out.2 h))
      have HR := Lib.hid (rnd_whole HF.out hr.out 3)
      clear HF hsf hr
      go_wp2
      go_ret2
      exact ⟨by rw [HR.out]; first | done | rfl, hb⟩
  · by_cases g3 : s < 0
    · have g3' : decide (s < 0) = true := decide_eq_true g3
      have g4 := hsf.out.1 g3
      have HR := Lib.hid (rnd_whole HF.out hr.out 4)
      clear HF hsf hr
      go_wp2
      go_ret2
      exact ⟨by rw [HR.out]; first | done | rfl, hb⟩
    · have g3' : decide (s < 0) = false := decide_eq_false g3
      have g4 : 0 ≤ fl := Int.not_lt.1 (fun h => g3 (hsf.out.2 h))
      have HR := Lib.hid (rnd_whole HF.out hr.out 4)
      clear HF hsf hr
      go_wp2
      go_ret2
      exact ⟨by rw [HR.out]; first | done | rfl, hb⟩
  · have HR := Lib.hid (rnd_whole HF.out hr.out 5)
    clear HF hsf hr
    go_wp2
    go_ret2
    exact ⟨by rw [HR.out]; first | done | rfl, hb⟩
  · have HR := Lib.hid (rnd_whole HF.out hr.out 6)
    clear HF hsf hr
    go_wp2
    go_ret2
    exact ⟨by rw [HR.out]; first | done | rfl, hb⟩
set_option maxHeartbeats 2000000 in
set_option maxRecDepth 100000 in
theorem rRound_r1 {l l' : List UInt8} {q : Rat} {k : Nat} (h : IsQ l l' q) (b : Bd k q) (hk : k ≤ 90000) (m : Int) (hm : m = 1) (h0 : q.num % q.den ≠ 0) : Ret 136 #[(Value.agg #[Value.string ⟨List.toArray l⟩, Value.string ⟨List.toArray l'⟩]), .int .i64 m] (.tuple #[.string ⟨(canon (rnd q m)).toArray⟩, .int .i64 0]) := fun w hG => by
  have c1 := rParts h
  have hbq := b
  have hd0 : (q.den : Int) ≠ 0 := by have := q.den_nz; omega
  have hfl := Nat.lt_of_le_of_lt (fl_abs q) b.1
  have hmd := Nat.lt_trans (mod_abs q) b.2
  have hde : (q.den : Int).natAbs < 10 ^ k := by rw [Int.natAbs_natCast]; exact b.2
  have hrr : (q.num % q.den + q.num % q.den).natAbs < 10 ^ (k + 1) := by rw [Nat.pow_succ]; omega
  have c2 := riDiv (l := fN q) (l' := canon q.den) (by have := (bd_len b).1; omega) (canon_len_of hde (by omega)) (by rw [val_canon]; exact hd0) (show divZ (val (fN q)) (val (canon q.den)) = q.floor by rw [val_fN, val_canon, div_den]) (show modZ (val (fN q)) (val (canon q.den)) = q.num % q.den by rw [val_fN, val_canon, mod_den])
  have c3 := riAdd (l := canon q.floor) (l' := [49]) (canon_len_of hfl (by omega)) (by decide) (show val (canon q.floor) + val [49] = q.floor + 1 by rw [val_canon]; rfl)
  have c4 := riCompare (l := fN q) (l' := []) (by have := (bd_len b).1; omega) (by decide) (show cmpZ (val (fN q)) (val []) = cmpZ q.num 0 by rw [val_fN]; rfl)
  have c5 := riAdd (l := canon (q.num % q.den)) (l' := canon (q.num % q.den)) (canon_len_of hmd (by omega)) (canon_len_of hmd (by omega)) (show val (canon (q.num % q.den)) + val (canon (q.num % q.den)) = q.num % q.den + q.num % q.den by rw [val_canon])
  have c6 := riCompare (l := canon (q.num % q.den + q.num % q.den)) (l' := canon q.den) (canon_len_of hrr (by omega)) (canon_len_of hde (by omega)) (show cmpZ (val (canon (q.num % q.den + q.num % q.den))) (val (canon q.den)) = halfC q by rw [val_canon, val_canon]; exact (rndF q).ec)
  have cE := dEven (l := canon q.floor) (canon_len_of hfl (by omega)) (val_canon q.floor)
  have hf := rndF q
  have hsf0 := sgn_fl q
  have x2 := FBox.new w (.string ⟨l.toArray⟩) (.string ⟨l'.toArray⟩) 25
  have hb := below_alloc w (.cells #[.string ⟨l.toArray⟩, .string ⟨l'.toArray⟩] 25)
  clear hbq hd0 hfl hmd hde hrr
  generalize q.floor = fl at *
  generalize q.num % q.den = r at *
  generalize halfC q = c at *
  generalize cmpZ q.num 0 = s at *
  have C1 := Lib.hid c1
  have C2 := Lib.hid c2
  have C3 := Lib.hid c3
  have C4 := Lib.hid c4
  have C5 := Lib.hid c5
  have C6 := Lib.hid c6
  have HE := Lib.hid cE
  have HF := Lib.hid hf
  have hsf := Lib.hid hsf0
  clear c1 c2 c3 c4 c5 c6 cE hf b h hsf0
  obtain ⟨e1, e2⟩ := str_ne h0
  have hr := Lib.hid h0
  clear h0 hk
  go_enter Tryz.func136, Tryz.ntmps136
  have qx2_0 := x2.c0
  have qx2_1 := x2.c1
  go_wp2_with fail
  ((with_reducible refine (C1.out.of hG hb).mono ?_); rintro e w2 ⟨rfl, hb2⟩)
  clear qx2_0 qx2_1
  replace x2 := x2.below hb2
  replace hb := bto hb hb2
  clear hb2
  go_wp2_with fail
  ((with_reducible refine (C2.out.of hG hb).mono ?_); rintro e w3 ⟨rfl, hb3⟩)
  replace x2 := x2.below hb3
  replace hb := bto hb hb3
  clear hb3
  go_wp2_with fail
  ((with_reducible refine (C3.out.of hG hb).mono ?_); rintro e w4 ⟨rfl, hb4⟩)
  replace x2 := x2.below hb4
  replace hb := bto hb hb4
  clear hb4
  go_wp2_with fail
  ((with_reducible refine (C4.out.of hG hb).mono ?_); rintro e w5 ⟨rfl, hb5⟩)
  replace x2 := x2.below hb5
  replace hb := bto hb hb5
  clear hb5
  go_wp2_with fail
  ((with_reducible refine (C5.out.of hG hb).mono ?_); rintro e w6 ⟨rfl, hb6⟩)
  replace x2 := x2.below hb6
  replace hb := bto hb hb6
  clear hb6
  go_wp2_with fail
  ((with_reducible refine (C6.out.of hG hb).mono ?_); rintro e w7 ⟨rfl, hb7⟩)
  replace x2 := x2.below hb7
  replace hb := bto hb hb7
  clear hb7
  clear x2
  clear e1 e2
  subst hm
  by_cases g1 : 0 < c
  · have g1' : decide (0 < c) = true := decide_eq_true g1
    have HR := Lib.hid (rnd_up HF.out hr.out (m := 1) (by simp [upB, g1]))
    clear HF hsf hr
    go_wp2
    go_ret2
    exact ⟨by rw [HR.out]; first | done | rfl, hb⟩
  have g1' : decide (0 < c) = false := decide_eq_false g1
  by_cases g2 : c = 0
  rotate_left
  · have g2' : (c == 0) = false := by rw [beq_eq_false_iff_ne]; exact g2
    have HR := Lib.hid (rnd_dn HF.out hr.out (m := 1) (by simp [upB, g1, g2]))
    clear HF hsf hr
    go_wp2
    go_ret2
    exact ⟨by rw [HR.out]; first | done | rfl, hb⟩
  have g2' : (c == 0) = true := by rw [beq_iff_eq]; exact g2
  by_cases g3 : fl % 2 = 0
  · have g3' : decide (fl % 2 = 0) = true := decide_eq_true g3
    have HR := Lib.hid (rnd_dn HF.out hr.out (m := 1) (by simp [upB, g1, g3]))
    clear HF hsf hr
    go_wp2_with fail
    ((with_reducible refine (HE.out.of hG hb).mono ?_); rintro e w9 ⟨rfl, hb9⟩)
    replace hb := bto hb hb9
    rw [g3']
    go_wp2
    go_ret2
    exact ⟨by rw [HR.out]; first | done | rfl, hb⟩
  · have g3' : decide (fl % 2 = 0) = false := decide_eq_false g3
    have HR := Lib.hid (rnd_up HF.out hr.out (m := 1) (by simp [upB, g2, g3]))
    clear HF hsf hr
    go_wp2_with fail
    ((with_reducible refine (HE.out.of hG hb).mono ?_); rintro e w9 ⟨rfl, hb9⟩)
    replace hb := bto hb hb9
    rw [g3']
    go_wp2
    go_ret2
    exact ⟨by rw [HR.out]; first | done | rfl, hb⟩
set_option maxHeartbeats 2000000 in
set_option maxRecDepth 100000 in
theorem rRound_r2 {l l' : List UInt8} {q : Rat} {k : Nat} (h : IsQ l l' q) (b : Bd k q) (hk : k ≤ 90000) (m : Int) (hm : m = 2) (h0 : q.num % q.den ≠ 0) : Ret 136 #[(Value.agg #[Value.string ⟨List.toArray l⟩, Value.string ⟨List.toArray l'⟩]), .int .i64 m] (.tuple #[.string ⟨(canon (rnd q m)).toArray⟩, .int .i64 0]) := fun w hG => by
  have c1 := rParts h
  have hbq := b
  have hd0 : (q.den : Int) ≠ 0 := by have := q.den_nz; omega
  have hfl := Nat.lt_of_le_of_lt (fl_abs q) b.1
  have hmd := Nat.lt_trans (mod_abs q) b.2
  have hde : (q.den : Int).natAbs < 10 ^ k := by rw [Int.natAbs_natCast]; exact b.2
  have hrr : (q.num % q.den + q.num % q.den).natAbs < 10 ^ (k + 1) := by rw [Nat.pow_succ]; omega
  have c2 := riDiv (l := fN q) (l' := canon q.den) (by have := (bd_len b).1; omega) (canon_len_of hde (by omega)) (by rw [val_canon]; exact hd0) (show divZ (val (fN q)) (val (canon q.den)) = q.floor by rw [val_fN, val_canon, div_den]) (show modZ (val (fN q)) (val (canon q.den)) = q.num % q.den by rw [val_fN, val_canon, mod_den])
  have c3 := riAdd (l := canon q.floor) (l' := [49]) (canon_len_of hfl (by omega)) (by decide) (show val (canon q.floor) + val [49] = q.floor + 1 by rw [val_canon]; rfl)
  have c4 := riCompare (l := fN q) (l' := []) (by have := (bd_len b).1; omega) (by decide) (show cmpZ (val (fN q)) (val []) = cmpZ q.num 0 by rw [val_fN]; rfl)
  have c5 := riAdd (l := canon (q.num % q.den)) (l' := canon (q.num % q.den)) (canon_len_of hmd (by omega)) (canon_len_of hmd (by omega)) (show val (canon (q.num % q.den)) + val (canon (q.num % q.den)) = q.num % q.den + q.num % q.den by rw [val_canon])
  have c6 := riCompare (l := canon (q.num % q.den + q.num % q.den)) (l' := canon q.den) (canon_len_of hrr (by omega)) (canon_len_of hde (by omega)) (show cmpZ (val (canon (q.num % q.den + q.num % q.den))) (val (canon q.den)) = halfC q by rw [val_canon, val_canon]; exact (rndF q).ec)
  have cE := dEven (l := canon q.floor) (canon_len_of hfl (by omega)) (val_canon q.floor)
  have hf := rndF q
  have hsf0 := sgn_fl q
  have x2 := FBox.new w (.string ⟨l.toArray⟩) (.string ⟨l'.toArray⟩) 25
  have hb := below_alloc w (.cells #[.string ⟨l.toArray⟩, .string ⟨l'.toArray⟩] 25)
  clear hbq hd0 hfl hmd hde hrr
  generalize q.floor = fl at *
  generalize q.num % q.den = r at *
  generalize halfC q = c at *
  generalize cmpZ q.num 0 = s at *
  have C1 := Lib.hid c1
  have C2 := Lib.hid c2
  have C3 := Lib.hid c3
  have C4 := Lib.hid c4
  have C5 := Lib.hid c5
  have C6 := Lib.hid c6
  have HE := Lib.hid cE
  have HF := Lib.hid hf
  have hsf := Lib.hid hsf0
  clear c1 c2 c3 c4 c5 c6 cE hf b h hsf0
  obtain ⟨e1, e2⟩ := str_ne h0
  have hr := Lib.hid h0
  clear h0 hk
  go_enter Tryz.func136, Tryz.ntmps136
  have qx2_0 := x2.c0
  have qx2_1 := x2.c1
  go_wp2_with fail
  ((with_reducible refine (C1.out.of hG hb).mono ?_); rintro e w2 ⟨rfl, hb2⟩)
  clear qx2_0 qx2_1
  replace x2 := x2.below hb2
  replace hb := bto hb hb2
  clear hb2
  go_wp2_with fail
  ((with_reducible refine (C2.out.of hG hb).mono ?_); rintro e w3 ⟨rfl, hb3⟩)
  replace x2 := x2.below hb3
  replace hb := bto hb hb3
  clear hb3
  go_wp2_with fail
  ((with_reducible refine (C3.out.of hG hb).mono ?_); rintro e w4 ⟨rfl, hb4⟩)
  replace x2 := x2.below hb4
  replace hb := bto hb hb4
  clear hb4
  go_wp2_with fail
  ((with_reducible refine (C4.out.of hG hb).mono ?_); rintro e w5 ⟨rfl, hb5⟩)
  replace x2 := x2.below hb5
  replace hb := bto hb hb5
  clear hb5
  go_wp2_with fail
  ((with_reducible refine (C5.out.of hG hb).mono ?_); rintro e w6 ⟨rfl, hb6⟩)
  replace x2 := x2.below hb6
  replace hb := bto hb hb6
  clear hb6
  go_wp2_with fail
  ((with_reducible refine (C6.out.of hG hb).mono ?_); rintro e w7 ⟨rfl, hb7⟩)
  replace x2 := x2.below hb7
  replace hb := bto hb hb7
  clear hb7
  clear x2
  clear e1 e2
  subst hm
  by_cases g1 : 0 < c
  · have g1' : decide (0 < c) = true := decide_eq_true g1
    have HR := Lib.hid (rnd_up HF.out hr.out (m := 2) (by simp [upB, g1]))
    clear HF hsf hr
    go_wp2
    go_ret2
    exact ⟨by rw [HR.out]; first | done | rfl, hb⟩
  have g1' : decide (0 < c) = false := decide_eq_false g1
  by_cases g2 : c = 0
  rotate_left
  · have g2' : (c == 0) = false := by rw [beq_eq_false_iff_ne]; exact g2
    have HR := Lib.hid (rnd_dn HF.out hr.out (m := 2) (by simp [upB, g1, g2]))
    clear HF hsf hr
    go_wp2
    go_ret2
    exact ⟨by rw [HR.out]; first | done | rfl, hb⟩
  have g2' : (c == 0) = true := by rw [beq_iff_eq]; exact g2
  by_cases g3 : s < 0
  · have g3' : decide (s < 0) = true := decide_eq_true g3
    have g4 := hsf.out.1 g3
    have HR := Lib.hid (rnd_dn HF.out hr.out (m := 2) (by simp [upB, g1]; first | omega | (intro _; omega)))
    clear HF hsf hr
    go_wp2
    go_ret2
    exact ⟨by rw [HR.out]; first | done | rfl, hb⟩
  · have g3' : decide (s < 0) = false := decide_eq_false g3
    have g4 : 0 ≤ fl := Int.not_lt.1 (fun h => g3 (hsf.out.2 h))
    have HR := Lib.hid (rnd_up HF.out hr.out (m := 2) (by simp [upB, g2, g4]))
    clear HF hsf hr
    go_wp2
    go_ret2
    exact ⟨by rw [HR.out]; first | done | rfl, hb⟩
set_option maxHeartbeats 2000000 in
set_option maxRecDepth 100000 in
theorem rRound_r3 {l l' : List UInt8} {q : Rat} {k : Nat} (h : IsQ l l' q) (b : Bd k q) (hk : k ≤ 90000) (m : Int) (hm : m = 3 ∨ m = 4 ∨ m = 5 ∨ m = 6) (h0 : q.num % q.den ≠ 0) : Ret 136 #[(Value.agg #[Value.string ⟨List.toArray l⟩, Value.string ⟨List.toArray l'⟩]), .int .i64 m] (.tuple #[.string ⟨(canon (rnd q m)).toArray⟩, .int .i64 0]) := fun w hG => by
  have c1 := rParts h
  have hbq := b
  have hd0 : (q.den : Int) ≠ 0 := by have := q.den_nz; omega
  have hfl := Nat.lt_of_le_of_lt (fl_abs q) b.1
  have hmd := Nat.lt_trans (mod_abs q) b.2
  have hde : (q.den : Int).natAbs < 10 ^ k := by rw [Int.natAbs_natCast]; exact b.2
  have hrr : (q.num % q.den + q.num % q.den).natAbs < 10 ^ (k + 1) := by rw [Nat.pow_succ]; omega
  have c2 := riDiv (l := fN q) (l' := canon q.den) (by have := (bd_len b).1; omega) (canon_len_of hde (by omega)) (by rw [val_canon]; exact hd0) (show divZ (val (fN q)) (val (canon q.den)) = q.floor by rw [val_fN, val_canon, div_den]) (show modZ (val (fN q)) (val (canon q.den)) = q.num % q.den by rw [val_fN, val_canon, mod_den])
  have c3 := riAdd (l := canon q.floor) (l' := [49]) (canon_len_of hfl (by omega)) (by decide) (show val (canon q.floor) + val [49] = q.floor + 1 by rw [val_canon]; rfl)
  have c4 := riCompare (l := fN q) (l' := []) (by have := (bd_len b).1; omega) (by decide) (show cmpZ (val (fN q)) (val []) = cmpZ q.num 0 by rw [val_fN]; rfl)
  have c5 := riAdd (l := canon (q.num % q.den)) (l' := canon (q.num % q.den)) (canon_len_of hmd (by omega)) (canon_len_of hmd (by omega)) (show val (canon (q.num % q.den)) + val (canon (q.num % q.den)) = q.num % q.den + q.num % q.den by rw [val_canon])
  have c6 := riCompare (l := canon (q.num % q.den + q.num % q.den)) (l' := canon q.den) (canon_len_of hrr (by omega)) (canon_len_of hde (by omega)) (show cmpZ (val (canon (q.num % q.den + q.num % q.den))) (val (canon q.den)) = halfC q by rw [val_canon, val_canon]; exact (rndF q).ec)
  have cE := dEven (l := canon q.floor) (canon_len_of hfl (by omega)) (val_canon q.floor)
  have hf := rndF q
  have hsf0 := sgn_fl q
  have x2 := FBox.new w (.string ⟨l.toArray⟩) (.string ⟨l'.toArray⟩) 25
  have hb := below_alloc w (.cells #[.string ⟨l.toArray⟩, .string ⟨l'.toArray⟩] 25)
  clear hbq hd0 hfl hmd hde hrr
  generalize q.floor = fl at *
  generalize q.num % q.den = r at *
  generalize halfC q = c at *
  generalize cmpZ q.num 0 = s at *
  have C1 := Lib.hid c1
  have C2 := Lib.hid c2
  have C3 := Lib.hid c3
  have C4 := Lib.hid c4
  have C5 := Lib.hid c5
  have C6 := Lib.hid c6
  have HE := Lib.hid cE
  have HF := Lib.hid hf
  have hsf := Lib.hid hsf0
  clear c1 c2 c3 c4 c5 c6 cE hf b h hsf0
  obtain ⟨e1, e2⟩ := str_ne h0
  have hr := Lib.hid h0
  clear h0 hk
  go_enter Tryz.func136, Tryz.ntmps136
  have qx2_0 := x2.c0
  have qx2_1 := x2.c1
  go_wp2_with fail
  ((with_reducible refine (C1.out.of hG hb).mono ?_); rintro e w2 ⟨rfl, hb2⟩)
  clear qx2_0 qx2_1
  replace x2 := x2.below hb2
  replace hb := bto hb hb2
  clear hb2
  go_wp2_with fail
  ((with_reducible refine (C2.out.of hG hb).mono ?_); rintro e w3 ⟨rfl, hb3⟩)
  replace x2 := x2.below hb3
  replace hb := bto hb hb3
  clear hb3
  go_wp2_with fail
  ((with_reducible refine (C3.out.of hG hb).mono ?_); rintro e w4 ⟨rfl, hb4⟩)
  replace x2 := x2.below hb4
  replace hb := bto hb hb4
  clear hb4
  go_wp2_with fail
  ((with_reducible refine (C4.out.of hG hb).mono ?_); rintro e w5 ⟨rfl, hb5⟩)
  replace x2 := x2.below hb5
  replace hb := bto hb hb5
  clear hb5
  go_wp2_with fail
  ((with_reducible refine (C5.out.of hG hb).mono ?_); rintro e w6 ⟨rfl, hb6⟩)
  replace x2 := x2.below hb6
  replace hb := bto hb hb6
  clear hb6
  go_wp2_with fail
  ((with_reducible refine (C6.out.of hG hb).mono ?_); rintro e w7 ⟨rfl, hb7⟩)
  replace x2 := x2.below hb7
  replace hb := bto hb hb7
  clear hb7
  clear x2
  clear e1 e2
  rcases hm with rfl | rfl | rfl | rfl
  · by_cases g3 : s < 0
    · have g3' : decide (s < 0) = true := decide_eq_true g3
      have g4 := hsf.out.1 g3
      have HR := Lib.hid (rnd_up HF.out hr.out (m := 3) (by simp [upB, g4]))
      clear HF hsf hr
      go_wp2
      go_ret2
      exact ⟨by rw [HR.out]; first | done | rfl, hb⟩
    · have g3' : decide (s < 0) = false := decide_eq_false g3
      have g4 : 0 ≤ fl := Int.not_lt.1 (fun h => g3 (hsf.out.2 h))
      have HR := Lib.hid (rnd_dn HF.out hr.out (m := 3) (by simp [upB]; omega))
      clear HF hsf hr
      go_wp2
      go_ret2
      exact ⟨by rw [HR.out]; first | done | rfl, hb⟩
  · by_cases g3 : s < 0
    · have g3' : decide (s < 0) = true := decide_eq_true g3
      have g4 := hsf.out.1 g3
      have HR := Lib.hid (rnd_dn HF.out hr.out (m := 4) (by simp [upB]; omega))
      clear HF hsf hr
      go_wp2
      go_ret2
      exact ⟨by rw [HR.out]; first | done | rfl, hb⟩
    · have g3' : decide (s < 0) = false := decide_eq_false g3
      have g4 : 0 ≤ fl := Int.not_lt.1 (fun h => g3 (hsf.out.2 h))
      have HR := Lib.hid (rnd_up HF.out hr.out (m := 4) (by simp [upB, g4]))
      clear HF hsf hr
      go_wp2
      go_ret2
      exact ⟨by rw [HR.out]; first | done | rfl, hb⟩
  · have HR := Lib.hid (rnd_dn HF.out hr.out (m := 5) (by simp [upB]))
    clear HF hsf hr
    go_wp2
    go_ret2
    exact ⟨by rw [HR.out]; first | done | rfl, hb⟩
  · have HR := Lib.hid (rnd_up HF.out hr.out (m := 6) (by simp [upB]))
    clear HF hsf hr
    go_wp2
    go_ret2
    exact ⟨by rw [HR.out]; first | done | rfl, hb⟩
theorem rRound {l l' : List UInt8} {q : Rat} {k : Nat} (h : IsQ l l' q) (b : Bd k q) (hk : k ≤ 90000) {m : Int} (h1 : 1 ≤ m) (h6 : m ≤ 6) {z : Int} (e : rnd q m = z) : Ret 136 #[(Value.agg #[Value.string ⟨List.toArray l⟩, Value.string ⟨List.toArray l'⟩]), .int .i64 m] (.tuple #[.string ⟨(canon z).toArray⟩, .int .i64 0]) := by
  subst e
  have hm : m = 1 ∨ m = 2 ∨ (m = 3 ∨ m = 4 ∨ m = 5 ∨ m = 6) := by omega
  by_cases h0 : q.num % q.den = 0
  · rcases hm with hm | hm | hm
    · exact rRound_w1 h b hk m hm h0
    · exact rRound_w2 h b hk m hm h0
    · exact rRound_w3 h b hk m hm h0
  · rcases hm with hm | hm | hm
    · exact rRound_r1 h b hk m hm h0
    · exact rRound_r2 h b hk m hm h0
    · exact rRound_r3 h b hk m hm h0
end Go.Proofs.YtgnppdkeiihlfaaGreatDoor
namespace Go.Proofs.YtgnppdkeiihlfaaGreatDoor
open Go.RowKit Num
set_option maxHeartbeats 1000000 in
set_option maxRecDepth 100000 in
theorem fRounded {l l' : List UInt8} {q : Rat} {k : Nat} (h : IsQ l l' q) (b : Bd k q) (hk : k ≤ 80000) {z : Int} (ez : rnd q 1 = z) : Ret 75 #[(Value.agg #[Value.string ⟨List.toArray l⟩, Value.string ⟨List.toArray l'⟩])] (.string ⟨(canon z).toArray⟩) := fun w hG => by
  have c1 := rRound h b (by omega) (m := 1) (by decide) (by decide) ez
  generalize canon z = Z at *
  have C1 := Lib.hid c1
  have x1 := FBox.new w (.string ⟨l.toArray⟩) (.string ⟨l'.toArray⟩) 25
  have hb := below_alloc w (.cells #[.string ⟨l.toArray⟩, .string ⟨l'.toArray⟩] 25)
  have q0 := x1.c0
  have q1 := x1.c1
  clear h b hk ez c1
  go_enter Tryz.func75, Tryz.ntmps75
  go_wp2_with fail
  ((with_reducible refine (C1.out.of hG hb).mono ?_); rintro e w2 ⟨rfl, hb2⟩)
  replace hb := bto hb hb2
  clear hb2 C1 x1 q0 q1
  go_wp2
  go_ret
  exact ⟨rfl, hb⟩
end Go.Proofs.YtgnppdkeiihlfaaGreatDoor
namespace Go.Proofs.YtgnppdkeiihlfaaGreatDoor
open Go.RowKit Num
def nameC (c : UInt8) : Bool := (decide (97 ≤ c.toNat) && decide (c.toNat ≤ 122)) || (decide (48 ≤ c.toNat) && decide (c.toNat ≤ 57)) || decide (c.toNat = 95)
def nameB (l : List UInt8) : Bool := decide (1 ≤ l.length) && decide (l.length ≤ 16) && l.all nameC
def codeC (c : UInt8) : Bool := decide (65 ≤ c.toNat) && decide (c.toNat ≤ 90)
def codeB (l : List UInt8) : Bool := decide (l.length = 3) && l.all codeC
def dayB (d : Int) : Bool := decide (-25567 ≤ d) && decide (d ≤ 84005)
theorem bytes_conv (l : List UInt8) (w : World) : ∃ (cap : Nat) (C : Array Value), (convert 9 159 (.string ⟨l.toArray⟩)).run Tryz.prog w = .ok (.slice (some ⟨w.heap.size, 0, none⟩) l.length cap) (w.drew.alloc (.cells C 5 (C.size, C.size + 1))) ∧
    ∀ (j : Nat) (x : UInt8), l[j]? = some x → (w.alloc (.cells C 5 (C.size, C.size + 1))).cell? ⟨w.heap.size, j, none⟩ = some (.int .u8 (x.toNat : Int)) := by
  have h := run_bytes_of_string (P := Tryz.prog) w 9 159 5 ⟨l.toArray⟩ Tryz.underlying9 Tryz.underlying159 Tryz.underlying5
  have hs : (⟨l.toArray⟩ : ByteArray).size = l.length := by show l.toArray.size = _; simp
  rw [hs] at h
  refine ⟨_, _, h, fun j x hx => ?_⟩
  obtain ⟨hj, rfl⟩ := List.getElem?_eq_some_iff.1 hx
  rw [World.cell?_alloc_mark, bytesRow_at _ _ _ (by simpa using hj)]
  simp
set_option maxHeartbeats 1000000 in
theorem iCode {l : List UInt8} (hl : l.length ≤ 1000000) : Ret 130 #[.string ⟨l.toArray⟩] (.bool (codeB l)) := fun w hG => by
  by_cases h3 : l.length = 3
  · obtain ⟨cap, C, hconv, hcell⟩ := bytes_conv l w
    have HC := Lib.hid hcell
    have k1 : (((l.length : Int)) != 3) = false := by simp; omega
    have k2 : ((l.length : Int) == 3) = true := by simp; omega
    have HV : Hid (∀ b, l.all codeC = b → codeB l = b) := by intro b hb; unfold codeB; rw [hb, decide_eq_true h3, Bool.true_and]
    have hb : Below w.heap.size w (w.alloc (.cells C 5 (C.size, C.size + 1))).drew := bto (below_alloc _ _) (bdr _)
    clear hcell h3
    go_enter Tryz.func130, Tryz.ntmps130
    go_wp2_with fail
    clear hconv
    go_loop [11] (fun iv => ∃ k : Nat, k ≤ l.length ∧ iv = .int .i64 (k : Int) ∧ Hid ((l.take k).all codeC = true)) (fun iv => l.length - (intOf iv).toNat)
    case atStart => exact ⟨0, Nat.zero_le _, rfl, rfl⟩
    case round =>
      obtain ⟨k, hk, rfl, HK⟩ := hrel
      by_cases hlt : k < l.length
      · obtain ⟨x, hx⟩ : ∃ x, l[k]? = some x := ⟨_, List.getElem?_eq_getElem hlt⟩
        have hc := HC.out k x hx
        have HX := Lib.hid hx
        clear hx
        by_cases d1 : (x.toNat : Int) < 65
        · have e1 : decide ((x.toNat : Int) < 65) = true := decide_eq_true d1
          go_wp2
          go_ret
          exact ⟨retb (HV.out _ (all_no' HX.out (by unfold codeC; rw [decide_eq_false (by omega), Bool.false_and]))).symm, hb⟩
        · have e1 : decide ((x.toNat : Int) < 65) = false := decide_eq_false d1
          by_cases d2 : 90 < (x.toNat : Int)
          · have e2 : decide (90 < (x.toNat : Int)) = true := decide_eq_true d2
            go_wp2
            go_ret
            exact ⟨retb (HV.out _ (all_no' HX.out (by unfold codeC; rw [decide_eq_false (p := x.toNat ≤ 90) (by omega), Bool.and_false]))).symm, hb⟩
          · have e2 : decide (90 < (x.toNat : Int)) = false := decide_eq_false d2
            go_wp2
            go_round
            case rel => exact ⟨k + 1, by omega, by go_num, all_snoc' HK.out HX.out (by unfold codeC; rw [decide_eq_true (by omega), decide_eq_true (by omega)]; rfl)⟩
            case measure => simp [intOf]; omega
      · have HK' : Hid (l.all codeC = true) := by have := HK.out; rw [List.take_of_length_le (by omega)] at this; exact this
        go_wp2
        go_ret
        exact ⟨retb (HV.out _ HK'.out).symm, hb⟩
  · have k1 : (((l.length : Int)) != 3) = true := by simp; omega
    have k2 : ((l.length : Int) == 3) = false := by simp; omega
    have HV : Hid (codeB l = false) := by show _ = _; unfold codeB; rw [decide_eq_false h3, Bool.false_and]
    clear h3
    go_enter Tryz.func130, Tryz.ntmps130
    go_wp2
    go_ret
    exact ⟨retb (HV.out).symm, Below.refl _ _⟩
end Go.Proofs.YtgnppdkeiihlfaaGreatDoor
namespace Go.Proofs.YtgnppdkeiihlfaaGreatDoor
open Go.RowKit Num
theorem codeC_iff (c : UInt8) : codeC c = true ↔ 65 ≤ c.toNat ∧ c.toNat ≤ 90 := by simp [codeC]
theorem nameC_iff (c : UInt8) : nameC c = true ↔ (97 ≤ c.toNat ∧ c.toNat ≤ 122) ∨ (48 ≤ c.toNat ∧ c.toNat ≤ 57) ∨ c.toNat = 95 := by simp [nameC, or_assoc]
set_option maxHeartbeats 1000000 in
theorem jCode {l : List UInt8} (hl : l.length ≤ 1000000) : Ret 160 #[.string ⟨l.toArray⟩] (.bool (codeB l)) := fun w hG => by
  have hb := Below.refl w.heap.size w
  have HN : Hid (l.all codeC = false → codeB l = false) := by intro h; unfold codeB; rw [h, Bool.and_false]
  have HY : Hid (l.all codeC = true → ((l.length : Int) == 3) = codeB l) := by intro h; unfold codeB; rw [h, Bool.and_true]; by_cases h3 : l.length = 3 <;> simp [h3] <;> omega
  go_enter Tryz.func160, Tryz.ntmps160
  go_wp2_with fail
  go_loop [3] (fun iv => ∃ k : Nat, k ≤ l.length ∧ iv = .int .i64 (k : Int) ∧ Hid ((l.take k).all codeC = true)) (fun iv => l.length - (intOf iv).toNat)
  case atStart => exact ⟨0, Nat.zero_le _, rfl, rfl⟩
  case round =>
    obtain ⟨k, hk, rfl, HK⟩ := hrel
    by_cases hlt : k < l.length
    · have hlt' : k < (⟨l.toArray⟩ : ByteArray).size := by show k < l.toArray.size; simpa using hlt
      obtain ⟨x, hx⟩ : ∃ x, x = (⟨l.toArray⟩ : ByteArray)[k] := ⟨_, rfl⟩
      have hxl : l[k]? = some x := by rw [hx]; simp [hlt]; rfl
      have HX := Lib.hid hxl
      clear hxl
      have hx2 : ∀ hp, (⟨l.toArray⟩ : ByteArray)[k]'hp = x := fun _ => hx.symm
      clear hx
      by_cases d1 : (x.toNat : Int) < 65
      · have ed1 : decide ((x.toNat : Int) < 65) = true := decide_eq_true d1
        go_wp2
        go_ret
        exact ⟨retb (HN.out (all_no' HX.out (not_true_b (fun h => by have := (codeC_iff _).1 h; omega)))).symm, hb⟩
      · have ed1 : decide ((x.toNat : Int) < 65) = false := decide_eq_false d1
        by_cases d2 : 90 < (x.toNat : Int)
        · have ed2 : decide (90 < (x.toNat : Int)) = true := decide_eq_true d2
          go_wp2
          go_ret
          exact ⟨retb (HN.out (all_no' HX.out (not_true_b (fun h => by have := (codeC_iff _).1 h; omega)))).symm, hb⟩
        · have ed2 : decide (90 < (x.toNat : Int)) = false := decide_eq_false d2
          go_wp2
          go_round
          case rel => exact ⟨k + 1, by omega, by go_num, all_snoc' HK.out HX.out ((codeC_iff _).2 (by omega))⟩
          case measure => simp [intOf]; omega
    · have HK' : Hid (l.all codeC = true) := by have := HK.out; rw [List.take_of_length_le (by omega)] at this; exact this
      clear HK
      go_wp2
      go_ret
      exact ⟨retb (HY.out HK'.out), hb⟩
set_option maxHeartbeats 2000000 in
set_option maxRecDepth 100000 in
theorem jName {l : List UInt8} (hl : l.length ≤ 1000000) : Ret 159 #[.string ⟨l.toArray⟩] (.bool (nameB l)) := fun w hG => by
  have hb := Below.refl w.heap.size w
  have HN : Hid (l.all nameC = false → nameB l = false) := by intro h; unfold nameB; rw [h, Bool.and_false]
  have HY : Hid (l.all nameC = true → nameB l = (decide (1 ≤ l.length) && decide (l.length ≤ 16))) := by intro h; unfold nameB; rw [h, Bool.and_true]
  go_enter Tryz.func159, Tryz.ntmps159
  go_wp2_with fail
  go_loop [3] (fun iv => ∃ k : Nat, k ≤ l.length ∧ iv = .int .i64 (k : Int) ∧ Hid ((l.take k).all nameC = true)) (fun iv => l.length - (intOf iv).toNat)
  case atStart => exact ⟨0, Nat.zero_le _, rfl, rfl⟩
  case round =>
    obtain ⟨k, hk, rfl, HK⟩ := hrel
    by_cases hlt : k < l.length
    · have hlt' : k < (⟨l.toArray⟩ : ByteArray).size := by show k < l.toArray.size; simpa using hlt
      obtain ⟨x, hx⟩ : ∃ x, x = (⟨l.toArray⟩ : ByteArray)[k] := ⟨_, rfl⟩
      have hxl : l[k]? = some x := by rw [hx]; simp [hlt]; rfl
      have HX := Lib.hid hxl
      clear hxl
      have hx2 : ∀ hp, (⟨l.toArray⟩ : ByteArray)[k]'hp = x := fun _ => hx.symm
      clear hx
      by_cases d1 : (x.toNat : Int) < 97
      · have ed1 : decide ((x.toNat : Int) < 97) = true := decide_eq_true d1
        by_cases d3 : (x.toNat : Int) < 48
        · have ed3 : decide ((x.toNat : Int) < 48) = true := decide_eq_true d3
          by_cases d5 : x.toNat = 95
          · have e5 : ((x.toNat : Int) == 95) = true := by rw [beq_iff_eq]; omega
            have e6 : ((x.toNat : Int) != 95) = false := bneq e5
            go_wp2
            go_round
            case rel => exact ⟨k + 1, by omega, by go_num, all_snoc' HK.out HX.out ((nameC_iff _).2 (by omega))⟩
            case measure => simp [intOf]; omega
          · have e5 : ((x.toNat : Int) == 95) = false := by rw [beq_eq_false_iff_ne]; omega
            have e6 : ((x.toNat : Int) != 95) = true := bneq' e5
            go_wp2
            go_ret
            exact ⟨retb (HN.out (all_no' HX.out (not_true_b (fun h => by have := (nameC_iff _).1 h; omega)))).symm, hb⟩
        · have ed3 : decide ((x.toNat : Int) < 48) = false := decide_eq_false d3
          by_cases d4 : 57 < (x.toNat : Int)
          · have ed4 : decide (57 < (x.toNat : Int)) = true := decide_eq_true d4
            by_cases d5 : x.toNat = 95
            · have e5 : ((x.toNat : Int) == 95) = true := by rw [beq_iff_eq]; omega
              have e6 : ((x.toNat : Int) != 95) = false := bneq e5
              go_wp2
              go_round
              case rel => exact ⟨k + 1, by omega, by go_num, all_snoc' HK.out HX.out ((nameC_iff _).2 (by omega))⟩
              case measure => simp [intOf]; omega
            · have e5 : ((x.toNat : Int) == 95) = false := by rw [beq_eq_false_iff_ne]; omega
              have e6 : ((x.toNat : Int) != 95) = true := bneq' e5
              go_wp2
              go_ret
              exact ⟨retb (HN.out (all_no' HX.out (not_true_b (fun h => by have := (nameC_iff _).1 h; omega)))).symm, hb⟩
          · have ed4 : decide (57 < (x.toNat : Int)) = false := decide_eq_false d4
            go_wp2
            go_round
            case rel => exact ⟨k + 1, by omega, by go_num, all_snoc' HK.out HX.out ((nameC_iff _).2 (by omega))⟩
            case measure => simp [intOf]; omega
      · have ed1 : decide ((x.toNat : Int) < 97) = false := decide_eq_false d1
        by_cases d2 : 122 < (x.toNat : Int)
        · have ed2 : decide (122 < (x.toNat : Int)) = true := decide_eq_true d2
          have e3 : decide ((x.toNat : Int) < 48) = false := decide_eq_false (by omega)
          have d3 : ¬ (x.toNat : Int) < 48 := by omega
          have e4 : decide (57 < (x.toNat : Int)) = true := decide_eq_true (by omega)
          have d4 : 57 < (x.toNat : Int) := by omega
          have e5 : ((x.toNat : Int) == 95) = false := by rw [beq_eq_false_iff_ne]; omega
          have e6 : ((x.toNat : Int) != 95) = true := bneq' e5
          have d5 : ¬ x.toNat = 95 := by omega
          go_wp2
          go_ret
          exact ⟨retb (HN.out (all_no' HX.out (not_true_b (fun h => by have := (nameC_iff _).1 h; omega)))).symm, hb⟩
        · have ed2 : decide (122 < (x.toNat : Int)) = false := decide_eq_false d2
          go_wp2
          go_round
          case rel => exact ⟨k + 1, by omega, by go_num, all_snoc' HK.out HX.out ((nameC_iff _).2 (by omega))⟩
          case measure => simp [intOf]; omega
    · have HK' : Hid (l.all nameC = true) := by have := HK.out; rw [List.take_of_length_le (by omega)] at this; exact this
      clear HK
      have HW := Lib.hid (HY.out HK'.out)
      by_cases g1 : 1 ≤ l.length
      · have e1 : decide (1 ≤ l.length) = true := decide_eq_true g1
        have e1' : decide ((1 : Int) ≤ (l.length : Int)) = true := decide_eq_true (by omega)
        go_wp2
        go_ret
        exact ⟨retb (by rw [HW.out, e1]; simp; omega), hb⟩
      · have e1 : decide (1 ≤ l.length) = false := decide_eq_false g1
        have e1' : decide ((1 : Int) ≤ (l.length : Int)) = false := decide_eq_false (by omega)
        go_wp2
        go_ret
        exact ⟨retb (by rw [HW.out, e1]; rfl), hb⟩
set_option maxHeartbeats 2000000 in
set_option maxRecDepth 100000 in
theorem iName {l : List UInt8} (hl : l.length ≤ 1000000) : Ret 129 #[.string ⟨l.toArray⟩] (.bool (nameB l)) := fun w hG => by
  by_cases h1 : l.length = 0
  · have k2 : ((l.length : Int) == 0) = true := by rw [beq_iff_eq]; omega
    have HV : Hid (nameB l = false) := by show _ = _; unfold nameB; rw [decide_eq_false (by omega), Bool.false_and, Bool.false_and]
    clear h1
    go_enter Tryz.func129, Tryz.ntmps129
    go_wp2
    go_ret
    exact ⟨retb HV.out.symm, Below.refl _ _⟩
  by_cases h2 : 16 < l.length
  · have k2 : ((l.length : Int) == 0) = false := by rw [beq_eq_false_iff_ne]; omega
    have k3 : decide (16 < l.length) = true := decide_eq_true h2
    have HV : Hid (nameB l = false) := by show _ = _; unfold nameB; rw [decide_eq_false (p := l.length ≤ 16) (by omega), Bool.and_false, Bool.false_and]
    clear h1
    go_enter Tryz.func129, Tryz.ntmps129
    go_wp2
    go_ret
    exact ⟨retb HV.out.symm, Below.refl _ _⟩
  obtain ⟨cap, C, hconv, hcell⟩ := bytes_conv l w
  have HC := Lib.hid hcell
  have k2 : ((l.length : Int) == 0) = false := by rw [beq_eq_false_iff_ne]; omega
  have k3 : decide (16 < l.length) = false := decide_eq_false h2
  have HV : Hid (∀ b, l.all nameC = b → nameB l = b) := by intro b hb; unfold nameB; rw [hb, decide_eq_true (by omega), decide_eq_true (by omega)]; rfl
  have hb : Below w.heap.size w (w.alloc (.cells C 5 (C.size, C.size + 1))).drew := bto (below_alloc _ _) (bdr _)
  clear hcell h1
  go_enter Tryz.func129, Tryz.ntmps129
  go_wp2_with fail
  clear hconv k2 k3 h2
  go_loop [16] (fun iv => ∃ k : Nat, k ≤ l.length ∧ iv = .int .i64 (k : Int) ∧ Hid ((l.take k).all nameC = true)) (fun iv => l.length - (intOf iv).toNat)
  case atStart => exact ⟨0, Nat.zero_le _, rfl, rfl⟩
  case round =>
    obtain ⟨k, hk, rfl, HK⟩ := hrel
    by_cases hlt : k < l.length
    · obtain ⟨x, hx⟩ : ∃ x, l[k]? = some x := ⟨_, List.getElem?_eq_getElem hlt⟩
      have hc := HC.out k x hx
      have HX := Lib.hid hx
      clear hx
      by_cases d1 : (x.toNat : Int) < 97
      · have ed1 : decide ((x.toNat : Int) < 97) = true := decide_eq_true d1
        by_cases d3 : (x.toNat : Int) < 48
        · have ed3 : decide ((x.toNat : Int) < 48) = true := decide_eq_true d3
          by_cases d5 : x.toNat = 95
          · have e5 : ((x.toNat : Int) == 95) = true := by rw [beq_iff_eq]; omega
            have e6 : ((x.toNat : Int) != 95) = false := bneq e5
            go_wp2
            go_round
            case rel => exact ⟨k + 1, by omega, by go_num, all_snoc' HK.out HX.out ((nameC_iff _).2 (by omega))⟩
            case measure => simp [intOf]; omega
          · have e5 : ((x.toNat : Int) == 95) = false := by rw [beq_eq_false_iff_ne]; omega
            have e6 : ((x.toNat : Int) != 95) = true := bneq' e5
            go_wp2
            go_ret
            exact ⟨retb (HV.out _ (all_no' HX.out (not_true_b (fun h => by have := (nameC_iff _).1 h; omega)))).symm, hb⟩
        · have ed3 : decide ((x.toNat : Int) < 48) = false := decide_eq_false d3
          by_cases d4 : 57 < (x.toNat : Int)
          · have ed4 : decide (57 < (x.toNat : Int)) = true := decide_eq_true d4
            by_cases d5 : x.toNat = 95
            · have e5 : ((x.toNat : Int) == 95) = true := by rw [beq_iff_eq]; omega
              have e6 : ((x.toNat : Int) != 95) = false := bneq e5
              go_wp2
              go_round
              case rel => exact ⟨k + 1, by omega, by go_num, all_snoc' HK.out HX.out ((nameC_iff _).2 (by omega))⟩
              case measure => simp [intOf]; omega
            · have e5 : ((x.toNat : Int) == 95) = false := by rw [beq_eq_false_iff_ne]; omega
              have e6 : ((x.toNat : Int) != 95) = true := bneq' e5
              go_wp2
              go_ret
              exact ⟨retb (HV.out _ (all_no' HX.out (not_true_b (fun h => by have := (nameC_iff _).1 h; omega)))).symm, hb⟩
          · have ed4 : decide (57 < (x.toNat : Int)) = false := decide_eq_false d4
            go_wp2
            go_round
            case rel => exact ⟨k + 1, by omega, by go_num, all_snoc' HK.out HX.out ((nameC_iff _).2 (by omega))⟩
            case measure => simp [intOf]; omega
      · have ed1 : decide ((x.toNat : Int) < 97) = false := decide_eq_false d1
        by_cases d2 : 122 < (x.toNat : Int)
        · have ed2 : decide (122 < (x.toNat : Int)) = true := decide_eq_true d2
          have e3 : decide ((x.toNat : Int) < 48) = false := decide_eq_false (by omega)
          have d3 : ¬ (x.toNat : Int) < 48 := by omega
          have e4 : decide (57 < (x.toNat : Int)) = true := decide_eq_true (by omega)
          have d4 : 57 < (x.toNat : Int) := by omega
          have e5 : ((x.toNat : Int) == 95) = false := by rw [beq_eq_false_iff_ne]; omega
          have e6 : ((x.toNat : Int) != 95) = true := bneq' e5
          have d5 : ¬ x.toNat = 95 := by omega
          go_wp2
          go_ret
          exact ⟨retb (HV.out _ (all_no' HX.out (not_true_b (fun h => by have := (nameC_iff _).1 h; omega)))).symm, hb⟩
        · have ed2 : decide (122 < (x.toNat : Int)) = false := decide_eq_false d2
          go_wp2
          go_round
          case rel => exact ⟨k + 1, by omega, by go_num, all_snoc' HK.out HX.out ((nameC_iff _).2 (by omega))⟩
          case measure => simp [intOf]; omega
    · have HK' : Hid (l.all nameC = true) := by have := HK.out; rw [List.take_of_length_le (by omega)] at this; exact this
      clear HK
      go_wp2
      go_ret
      exact ⟨retb (HV.out _ HK'.out).symm, hb⟩
end Go.Proofs.YtgnppdkeiihlfaaGreatDoor
namespace Go.Proofs.YtgnppdkeiihlfaaGreatDoor
open Go.RowKit Num
structure Ins where
  id : List UInt8
  kind : Int
  cur : List UInt8
  places : Int
  issued : Int
  matures : Int
  fn : List UInt8
  fd : List UInt8
  cn : List UInt8
  cd : List UInt8
  months : Int
  count : Int
  other : List UInt8
  sn : List UInt8
  sd : List UInt8
theorem iValid (d : Int) : Ret 131 #[.int .i64 d] (.bool (dayB d)) := fun w hG => by
  by_cases h1 : -25567 ≤ d
  · have e1 : decide (-25567 ≤ d) = true := decide_eq_true h1
    have HV : Hid (dayB d = decide (d ≤ 84005)) := by show _ = _; unfold dayB; rw [e1]; rfl
    go_enter Tryz.func131, Tryz.ntmps131
    go_wp2
    go_ret
    exact ⟨retb HV.out.symm, Below.refl _ _⟩
  · have e1 : decide (-25567 ≤ d) = false := decide_eq_false h1
    have HV : Hid (dayB d = false) := by show _ = _; unfold dayB; rw [e1]; rfl
    go_enter Tryz.func131, Tryz.ntmps131
    go_wp2
    go_ret
    exact ⟨retb HV.out.symm, Below.refl _ _⟩
def digN : List UInt8 → Int
  | [] => 0
  | c :: t => if c.toNat = 45 then t.length else t.length + 1
theorem digN_le (l : List UInt8) : 0 ≤ digN l ∧ digN l ≤ l.length := by
  cases l with
  | nil => exact ⟨by decide, by decide⟩
  | cons c t =>
    show 0 ≤ (if c.toNat = 45 then (t.length : Int) else t.length + 1) ∧ (if c.toNat = 45 then (t.length : Int) else t.length + 1) ≤ ((t.length + 1 : Nat) : Int)
    split <;> omega
theorem iDigits {l : List UInt8} (hl : l.length ≤ 1000000) : Ret 194 #[.string ⟨l.toArray⟩] (.int .i64 (digN l)) := fun w hG => by
  cases l with
  | nil =>
    go_enter Tryz.func194, Tryz.ntmps194
    go_wp2
    go_ret
    exact ⟨rfl, Below.refl _ _⟩
  | cons c t =>
    have htl : t.length ≤ 1000000 := by simp only [List.length_cons] at hl; omega
    have k1 : ((c :: t) == []) = false := rfl
    have k3 : (c :: t).isEmpty = false := rfl
    by_cases hc : c.toNat = 45
    · have k2 : ∀ hp, ((((⟨(c :: t).toArray⟩ : ByteArray)[0]'hp).toNat : Int) == 45) = true := fun hp => by rw [beq_iff_eq]; show ((c.toNat : Nat) : Int) = 45; omega
      have HV : Hid (digN (c :: t) = t.length) := if_pos hc
      clear hc
      go_enter Tryz.func194, Tryz.ntmps194
      go_wp2
      go_ret
      exact ⟨reti (by have h := HV.out; omega), Below.refl _ _⟩
    · have k2 : ∀ hp, ((((⟨(c :: t).toArray⟩ : ByteArray)[0]'hp).toNat : Int) == 45) = false := fun hp => by rw [beq_eq_false_iff_ne]; show ¬ ((c.toNat : Nat) : Int) = 45; omega
      have HV : Hid (digN (c :: t) = t.length + 1) := if_neg hc
      clear hc
      go_enter Tryz.func194, Tryz.ntmps194
      go_wp2
      go_ret
      exact ⟨reti (by have h := HV.out; omega), Below.refl _ _⟩
end Go.Proofs.YtgnppdkeiihlfaaGreatDoor
namespace Go.Proofs.YtgnppdkeiihlfaaGreatDoor
open Go.RowKit Num
section
variable {l l' : List UInt8}
theorem iSign (hl : l.length ≤ 1000000) {c : Int} (e : cmpZ (val l) 0 = c) : Ret 227 #[(Value.agg #[Value.string ⟨List.toArray l⟩, Value.string ⟨List.toArray l'⟩])] (.int .i64 c) := fun w hG => by
  have c1 := riCompare (l := l) (l' := []) (Nat.le_trans hl (by decide)) (by decide) (c := c) (by rw [val_nil]; exact e)
  have H1 := Lib.hid c1
  have x1 := FBox.new w (.string ⟨l.toArray⟩) (.string ⟨l'.toArray⟩) 25
  have hb := below_alloc w (.cells #[.string ⟨l.toArray⟩, .string ⟨l'.toArray⟩] 25)
  have q0 := x1.c0
  have q1 := x1.c1
  clear c1 e
  go_enter Tryz.func227, Tryz.ntmps227
  go_wp2_with fail
  ((with_reducible refine (H1.out.of hG hb).mono ?_); rintro e w1 ⟨rfl, hb2⟩)
  have hb := bto hb hb2
  go_wp2
  go_ret
  exact ⟨rfl, hb⟩
def isCan (l l' : List UInt8) : Prop := l = fN (fv l l') ∧ l' = fD (fv l l')
instance (l l' : List UInt8) : Decidable (isCan l l') := by unfold isCan; infer_instance
def numE (l l' : List UInt8) : Int := if isCan l l' then (if 40 < digN l ∨ 40 < digN l' then 4 else 0) else 1
theorem sign_can (h : isCan l l') : cmpQ (fv l l') 0 = cmpZ (val l) 0 := by
  have h1 : val l = (fv l l').num := (congrArg val h.1).trans (val_fN _)
  have h2 : fv l l' = Rat.divInt (val l) ((fv l l').den : Int) := by rw [h1, Rat.num_divInt_den]
  have h3 := cmp_cross (a := val l) (b := ((fv l l').den : Int)) (c := 0) (e := 1) (by have := (fv l l').den_nz; omega) (by decide)
  rw [← h2, Rat.zero_divInt] at h3
  rw [← h3, Int.mul_one, Int.zero_mul]
set_option maxHeartbeats 1000000 in
set_option maxRecDepth 100000 in
theorem iNumber (hl : l.length ≤ 100000) (hl' : l'.length ≤ 100000) : Ret 133 #[(Value.agg #[Value.string ⟨List.toArray l⟩, Value.string ⟨List.toArray l'⟩])] (.int .i64 (numE l l')) := fun w hG => by
  have c1 := rCheck (l := l) (l' := l') ⟨hl, hl', rfl⟩ rfl
  have c2 := iDigits (l := l) (by omega)
  have c3 := iDigits (l := l') (by omega)
  have b1 := digN_le l
  have b2 := digN_le l'
  have x1 := FBox.new w (.string ⟨l.toArray⟩) (.string ⟨l'.toArray⟩) 25
  have hb := below_alloc w (.cells #[.string ⟨l.toArray⟩, .string ⟨l'.toArray⟩] 25)
  by_cases h : isCan l l'
  · rw [if_pos (show l = fN (fv l l') ∧ l' = fD (fv l l') from h)] at c1
    have HN : Hid (numE l l' = if 40 < digN l ∨ 40 < digN l' then 4 else 0) := if_pos h
    clear h
    generalize digN l = a at *
    generalize digN l' = b at *
    have H1 := Lib.hid c1
    clear c1
    by_cases hd : 40 < max a b
    · have e1 : decide (40 < max a b) = true := decide_eq_true hd
      have HV : Hid (numE l l' = 4) := by show _ = _; rw [HN.out, if_pos (by omega)]
      go_enter Tryz.func133, Tryz.ntmps133
      have q0 := x1.c0
      have q1 := x1.c1
      go_wp2_with fail
      ((with_reducible refine (H1.out.of hG hb).mono ?_); rintro e w1 ⟨rfl, hb2⟩)
      replace hb := bto hb hb2
      replace x1 := x1.below hb2
      clear hb2 q0 q1
      go_wp2_with fail
      refine wp_region_kept (by kernel_rfl) (by kernel_rfl) ?_
      refine kept_val _ (fun _ => rfl) (fun ρ w hw => by go_simp; first | done | with_reducible rfl) ?_
      simp only [Act.put, List.setIfInBounds_toArray, List.set_cons_zero, List.set_cons_succ, Nat.reduceAdd]
      refine kept_val _ (fun _ => rfl) (fun ρ w hw => by have q0 := (x1.below hw).c0; have q1 := (x1.below hw).c1; go_simp; first | done | with_reducible rfl) ?_
      simp only [Act.put, List.setIfInBounds_toArray, List.set_cons_zero, List.set_cons_succ, Nat.reduceAdd]
      refine kept_call _ _ _ (fun _ => rfl) (fun ρ w hw => by go_simp; first | done | with_reducible rfl) (fun w hw => c2.of hG (bto hb hw)) ?_
      simp only [Act.put, List.setIfInBounds_toArray, List.set_cons_zero, List.set_cons_succ, Nat.reduceAdd]
      refine kept_val _ (fun _ => rfl) (fun ρ w hw => by go_simp; first | done | with_reducible rfl) ?_
      simp only [Act.put, List.setIfInBounds_toArray, List.set_cons_zero, List.set_cons_succ, Nat.reduceAdd]
      refine kept_val _ (fun _ => rfl) (fun ρ w hw => by have q0 := (x1.below hw).c0; have q1 := (x1.below hw).c1; go_simp; first | done | with_reducible rfl) ?_
      simp only [Act.put, List.setIfInBounds_toArray, List.set_cons_zero, List.set_cons_succ, Nat.reduceAdd]
      refine kept_call _ _ _ (fun _ => rfl) (fun ρ w hw => by go_simp; first | done | with_reducible rfl) (fun w hw => c3.of hG (bto hb hw)) ?_
      iterate 3
        simp only [Act.put, List.setIfInBounds_toArray, List.set_cons_zero, List.set_cons_succ, Nat.reduceAdd]
        refine kept_val _ (fun _ => rfl) (fun ρ w hw => by go_simp; first | done | with_reducible rfl) ?_
      simp only [Act.put, List.setIfInBounds_toArray, List.set_cons_zero, List.set_cons_succ, Nat.reduceAdd]
      refine kept_end (fun ρ w2 hF => ?_)
      replace x1 := x1.below hF.below
      replace hb := bto hb hF.below
      clear hF
      go_wp2
      go_ret
      exact ⟨reti HV.out.symm, hb⟩
    · have e1 : decide (40 < max a b) = false := decide_eq_false hd
      have HV : Hid (numE l l' = 0) := by show _ = _; rw [HN.out, if_neg (by omega)]
      go_enter Tryz.func133, Tryz.ntmps133
      have q0 := x1.c0
      have q1 := x1.c1
      go_wp2_with fail
      ((with_reducible refine (H1.out.of hG hb).mono ?_); rintro e w1 ⟨rfl, hb2⟩)
      replace hb := bto hb hb2
      replace x1 := x1.below hb2
      clear hb2 q0 q1
      go_wp2_with fail
      refine wp_region_kept (by kernel_rfl) (by kernel_rfl) ?_
      refine kept_val _ (fun _ => rfl) (fun ρ w hw => by go_simp; first | done | with_reducible rfl) ?_
      simp only [Act.put, List.setIfInBounds_toArray, List.set_cons_zero, List.set_cons_succ, Nat.reduceAdd]
      refine kept_val _ (fun _ => rfl) (fun ρ w hw => by have q0 := (x1.below hw).c0; have q1 := (x1.below hw).c1; go_simp; first | done | with_reducible rfl) ?_
      simp only [Act.put, List.setIfInBounds_toArray, List.set_cons_zero, List.set_cons_succ, Nat.reduceAdd]
      refine kept_call _ _ _ (fun _ => rfl) (fun ρ w hw => by go_simp; first | done | with_reducible rfl) (fun w hw => c2.of hG (bto hb hw)) ?_
      simp only [Act.put, List.setIfInBounds_toArray, List.set_cons_zero, List.set_cons_succ, Nat.reduceAdd]
      refine kept_val _ (fun _ => rfl) (fun ρ w hw => by go_simp; first | done | with_reducible rfl) ?_
      simp only [Act.put, List.setIfInBounds_toArray, List.set_cons_zero, List.set_cons_succ, Nat.reduceAdd]
      refine kept_val _ (fun _ => rfl) (fun ρ w hw => by have q0 := (x1.below hw).c0; have q1 := (x1.below hw).c1; go_simp; first | done | with_reducible rfl) ?_
      simp only [Act.put, List.setIfInBounds_toArray, List.set_cons_zero, List.set_cons_succ, Nat.reduceAdd]
      refine kept_call _ _ _ (fun _ => rfl) (fun ρ w hw => by go_simp; first | done | with_reducible rfl) (fun w hw => c3.of hG (bto hb hw)) ?_
      iterate 3
        simp only [Act.put, List.setIfInBounds_toArray, List.set_cons_zero, List.set_cons_succ, Nat.reduceAdd]
        refine kept_val _ (fun _ => rfl) (fun ρ w hw => by go_simp; first | done | with_reducible rfl) ?_
      simp only [Act.put, List.setIfInBounds_toArray, List.set_cons_zero, List.set_cons_succ, Nat.reduceAdd]
      refine kept_end (fun ρ w2 hF => ?_)
      replace x1 := x1.below hF.below
      replace hb := bto hb hF.below
      clear hF
      go_wp2
      go_ret
      exact ⟨reti HV.out.symm, hb⟩
  · have e0 : ¬ (l = fN (fv l l') ∧ l' = fD (fv l l')) := h
    rw [if_neg e0] at c1
    have HV : Hid (numE l l' = 1) := if_neg h
    have H1 := Lib.hid c1
    clear c1 c2 c3 e0 h b1 b2
    go_enter Tryz.func133, Tryz.ntmps133
    have q0 := x1.c0
    have q1 := x1.c1
    go_wp2_with fail
    ((with_reducible refine (H1.out.of hG hb).mono ?_); rintro e w1 ⟨rfl, hb2⟩)
    replace hb := bto hb hb2
    go_wp2
    go_ret
    exact ⟨reti HV.out.symm, hb⟩
end
end Go.Proofs.YtgnppdkeiihlfaaGreatDoor
