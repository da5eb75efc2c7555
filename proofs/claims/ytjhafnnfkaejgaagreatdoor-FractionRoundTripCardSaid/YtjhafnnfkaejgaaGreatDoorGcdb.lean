/- Package integer: Gcd. -/
import Derived.Test.YtjhafnnfkaejgaaGreatDoorGcda
namespace Go.Proofs.YtjhafnnfkaejgaaGreatDoor
open Go.RowKit Go.Shelf Num
attribute [local go_sem] Oper.semAt_some

/-- a range over a function whose rounds never leave -/
theorem range_goes {n : Nat} {P : Program} {g : Operand} {ps : Array Tmp} {assign body : Code} {Q : Exit → Act → World → Prop} {a : Act} {w : World} {gf : Nat} {lb : Array Value}
    (hg : a.eval g = .func (.func gf) #[] lb) (eg : ∀ args w, (callFunc gf args).run P w = .ok (.enter gf args) w)
    (H : ∀ (fn : FuncId) (R : Loop), R = { state := .ready, pending := none, fn, tmps := a.tmps, params := ps, assign, body, defers := w.heap.size } →
      CallsIn Fence.wide (n - 1) P gf (#[.func (.yield (w.heap.size + 1)) #[] #[]] ++ lb) ((w.alloc (.deferred (some []))).alloc (.loop R)) fun e W' =>
        (∃ v, e = .returned v) ∧ W'.heap[w.heap.size + 1]? = some (.loop R) ∧ Q .normal { a with defers := { target := .collected w.heap.size, args := #[] } :: a.defers } (W'.putObj (w.heap.size + 1) (.loop { R with state := .exhausted }))) :
    (Code.rangeFunc g ps assign body).wpIn Fence.wide n P Q a w := by
  refine wpIn_rangeFunc ?_
  intro fn _
  obtain ⟨R, hR⟩ : ∃ R : Loop, R = { state := .ready, pending := none, fn, tmps := a.tmps, params := ps, assign, body, defers := w.heap.size } := ⟨_, rfl⟩
  have HH := H fn R hR
  obtain ⟨W1, hW1⟩ : ∃ W1, W1 = (w.alloc (.deferred (some []))).alloc (.loop R) := ⟨_, rfl⟩
  rw [← hW1] at HH
  refine ⟨w.heap.size + 1, [{ target := .collected w.heap.size, args := #[] }], W1, { target := .fn (.func gf) lb, args := #[.func (.yield (w.heap.size + 1)) #[] #[]] }, W1, gf,
    #[.func (.yield (w.heap.size + 1)) #[] #[]] ++ lb, W1, ?_, ?_, fun _ _ => trivial, ?_, (fun h => by cases h), ?_⟩
  · rw [hW1, hR]; exact run_enterLoop_outer _ _ _ _ _
  · simp only [resolve, hg]
    simp [go_sem]
  · simp [invoke, go_sem, eg]
  · refine HH.mono ?_
    rintro e W' ⟨⟨v, rfl⟩, hl, hQ⟩
    have he := run_endLoop (P := P) hl (by rw [hR]; simp)
    have hp : R.pending = none := by rw [hR]
    exact ⟨none, _, he.trans (by rw [hp]), hQ⟩

theorem steps_any (A A' : Option Addr) (n c n' c' : Nat) (w : World) :
    Calls Tryz.prog 70 #[.slice A n c, .slice A' n' c'] w fun e w' => e = .returned (.func (.func 105) #[] #[.pointer (some ⟨w.heap.size, 0, none⟩), .pointer (some ⟨w.heap.size + 1, 0, none⟩)]) ∧ w' = (w.alloc (.cells #[.slice A n c] 68)).alloc (.cells #[.slice A' n' c'] 68) := by
  go_enter Tryz.func70, Tryz.ntmps70
  go_wp2_with fail
  go_ret
  exact ⟨rfl, rfl⟩

set_option maxRecDepth 100000 in
set_option maxHeartbeats 2000000 in
theorem gcd_any (l l' : List UInt8) (w : World) (hl : l.length ≤ 100000000) (hl' : l'.length ≤ 100000000) (hG : Glob w) :
    Calls Tryz.prog 40 #[.string ⟨l.toArray⟩, .string ⟨l'.toArray⟩] w fun e w' => e = .returned (.string ⟨(canon (Int.gcd (val l) (val l') : Int)).toArray⟩) ∧ Below w.heap.size w w' := by
  have hfd : ∀ (b : Bool) (A : Option Addr) (n c : Nat) (w : World), (Instr.field 70 (.agg #[.bool b, .slice A n c]) 1).run Tryz.prog w = .ok (.slice A n c) w := fun _ _ _ _ _ => by kernel_rfl
  refine (callsIn_wide (n := 5)).1 ?_
  refine callsIn_of_wp_marks Tryz.func40 rfl trivial ?_ rfl
  simp only [Tryz.ntmps40, List.size_toArray, List.length_cons, List.length_nil, Nat.reduceAdd, Nat.reduceSub, Array.replicate_succ, Array.replicate_zero, List.push_toArray, List.append_toArray, List.nil_append, List.cons_append]
  gi_wp2_with (first
    | (refine ⟨trivial, ?_⟩; gi_at_call 68; (with_reducible refine (callsIn_wide.2 (read_var l _ hl)).mono ?_); rintro e w1 ⟨A, n, c, rfl, hn, ho1, hb1⟩)
    | (refine ⟨trivial, ?_⟩; gi_at_call 68; (with_reducible refine (callsIn_wide.2 (read_var l' _ hl')).mono ?_); rintro e w2 ⟨A', n', c', rfl, hn', ho2, hb2⟩)
    | (refine ⟨trivial, ?_⟩; gi_at_call 70; (with_reducible refine (callsIn_wide.2 (steps_any _ _ _ _ _ _ _)).mono ?_); rintro e w3 ⟨rfl, hw3⟩))
  refine range_goes (gf := 105) (lb := #[.pointer (some ⟨w2.heap.size, 0, none⟩), .pointer (some ⟨w2.heap.size + 1, 0, none⟩)]) rfl (enters_of Tryz.func105 (by kernel_rfl) rfl) ?_
  intro fn R hR
  obtain ⟨W0, hW0⟩ : ∃ W0, W0 = (w2.alloc (.cells #[.slice A n c] 68)).alloc (.cells #[.slice A' n' c'] 68) := ⟨_, rfl⟩
  have hsz : W0.heap.size = w2.heap.size + 2 := by rw [hW0]; simp
  have hbA : Below w2.heap.size w2 W0 := by rw [hW0]; exact bto (below_alloc _ _) (below_alloc _ _)
  have x1 : Box W0 w2.heap.size (.slice A n c) := by rw [hW0]; unfold Box; exact (Below.heap_alloc _ _ _ (by simp)).trans (World.alloc_heap_new _ _)
  have x2 : Box W0 (w2.heap.size + 1) (.slice A' n' c') := by
    rw [hW0]; unfold Box
    have := World.alloc_heap_new (w2.alloc (.cells #[.slice A n c] 68)) (.cells #[.slice A' n' c'] 68)
    rwa [World.size_alloc] at this
  rw [← hW0] at hR ⊢
  obtain ⟨W1, hW1⟩ : ∃ W1, W1 = (W0.alloc (.deferred (some []))).alloc (.loop R) := ⟨_, rfl⟩
  have hbB : Below W0.heap.size W0 W1 := by rw [hW1]; exact bto (below_alloc _ _) (below_alloc _ _)
  have hD : W1.heap[W0.heap.size]? = some (.deferred (some [])) := by rw [hW1]; exact (Below.heap_alloc _ _ _ (by simp)).trans (World.alloc_heap_new _ _)
  have hL : W1.heap[W0.heap.size + 1]? = some (.loop R) := by
    rw [hW1]
    have := World.alloc_heap_new (W0.alloc (.deferred (some []))) (.loop R)
    rwa [World.size_alloc] at this
  rw [← hW1]
  have hbo : Box (w.alloc (.cells #[.slice none 0 0] 68)) w.heap.size (.slice none 0 0) := World.alloc_heap_new _ _
  have hwb : w.heap.size + 1 ≤ w2.heap.size := by have h1 := hb1.size; have h2 := hb2.size; simp at h1; omega
  have hb12 := bto hb1 (bto hb2 (bto hbA hbB))
  have hwW := bto (below_alloc w (.cells #[.slice none 0 0] 68)) hb12
  have hlo : w.heap.size ≠ W0.heap.size + 1 := by omega
  have hY : ∀ (W : World) (A A' : Option Addr) (n c n' c' : Nat) (z : Value), W.heap[W0.heap.size + 1]? = some (.loop R) → Box W w.heap.size z → YieldAt Fence.wide (4 - 1) Tryz.prog (W0.heap.size + 1) #[.slice A n c, .slice A' n' c'] W fun e W' => e = .returned (.bool true) ∧ W' = roundW W (W0.heap.size + 1) w.heap.size R { R with state := .busy } (.slice A n c) := by
    clear hW0 hsz hbA x1 x2 hW1 hbB hD hL hb12 hwW hwb hb1 hb2 ho1 ho2
    revert hlo
    generalize W0.heap.size + 1 = lw
    intro hlo W A2 A2' n2 c2 n2' c2' z hl hz
    have hy := run_yield (P := Tryz.prog) (args := #[.slice A2 n2 c2, .slice A2' n2' c2']) hl (by rw [hR]; rfl)
    refine ⟨R.fn, _, R.assign, R.body, hy, roundIn_of_wpIn trivial ?_⟩
    have hz2 : Box (W.putObj lw (.loop { R with state := .busy })) w.heap.size z := hz.other (World.putObj_heap_other hlo)
    have hbr := run_beginRound (P := Tryz.prog) hl (by rw [hR])
    have hl3 : ((W.putObj lw (.loop { R with state := .busy })).setCell ⟨w.heap.size, 0, none⟩ (.slice A2 n2 c2)).heap[lw]? = some (.loop { R with state := .busy }) := (Below.heap_setCell _ ⟨w.heap.size, 0, none⟩ _ _ (Ne.symm hlo)).trans (World.putObj_heap_same (Array.getElem?_eq_some_iff.1 hl).1)
    have her := run_endRound (P := Tryz.prog) none hl3
    have hfin : ((W.putObj lw (.loop { R with state := .busy })).setCell ⟨w.heap.size, 0, none⟩ (.slice A2 n2 c2)).putObj lw (.loop { R with state := .ready, pending := none }) = roundW W lw w.heap.size R { R with state := .busy } (.slice A2 n2 c2) := by rw [hR]; rfl
    obtain ⟨fin, hfn⟩ : ∃ fin, fin = roundW W lw w.heap.size R { R with state := .busy } (.slice A2 n2 c2) := ⟨_, rfl⟩
    have her : (Instr.endRound lw none).run Tryz.prog ((W.putObj lw (.loop { R with state := .busy })).setCell ⟨w.heap.size, 0, none⟩ (.slice A2 n2 c2)) = .ok (.bool true) fin := by rw [hfn, ← hfin]; exact her
    rw [← hfn]
    obtain ⟨Wb, hWb⟩ : ∃ Wb, Wb = W.putObj lw (.loop { R with state := .busy }) := ⟨_, rfl⟩
    rw [← hWb] at hz2 hbr her
    have c1 := hz2.cell
    have f1 := hz2.frozen
    have HB := Lib.hid hbr
    have HE := Lib.hid her
    clear hWb hfn hfin hl3 hbr her hy hl hz hlo hz2 hG hl' 
    rw [hR]
    clear hR
    gi_wp2
    refine ⟨_, HB.out, ?_⟩
    gi_wp2
    exact ⟨_, _, HE.out, rfl, rfl⟩
  have key := steps1_in (5 - 1) (W0.heap.size + 1) w.heap.size w2.heap.size (w2.heap.size + 1) W0.heap.size R { R with state := .busy } w W1 (val l).natAbs (val l').natAbs hY (by omega) (by omega) (by omega) (by omega) (by omega) (by omega) (by omega) (by omega) (by omega) (by omega) (by omega) (by omega) (by omega) (by omega) hL hD ⟨_, hbo.below hb12⟩
    ⟨A, n, c, x1.below hbB, own_base (own_below ho1 (bto hb2 (bto hbA hbB))) (Nat.zero_le _), hn⟩ ⟨A', n', c', x2.below hbB, own_base (own_below ho2 (bto hbA hbB)) (Nat.zero_le _), hn'⟩ hwW
  refine key.mono ?_
  rintro e W2 ⟨hv, hl2, hD2, ⟨A3, n3, c3, b3, o3, hn3⟩, hw2⟩
  refine ⟨hv, hl2, ?_⟩
  have hDl : W0.heap.size ≠ W0.heap.size + 1 := by omega
  have hwD : w.heap.size ≤ W0.heap.size := by omega
  obtain ⟨W3, hW3⟩ : ∃ W3, W3 = W2.putObj (W0.heap.size + 1) (.loop { R with state := .exhausted }) := ⟨_, rfl⟩
  have hD3 : W3.heap[W0.heap.size]? = some (.deferred (some [])) := by rw [hW3]; exact (World.putObj_heap_other hDl).trans hD2
  have b3' : Box W3 w.heap.size (.slice A3 n3 c3) := by rw [hW3]; exact b3.other (World.putObj_heap_other hlo)
  have o3' : W3.ownsRow 0 95 1 (.slice A3 n3 c3) n3 (U (grp (Nat.gcd (val l).natAbs (val l').natAbs))) := by
    rw [hW3]; exact own_same o3 fun k cur hk => World.putObj_heap_other (fun e => by subst e; rw [hl2] at hk; simp at hk)
  have hw3 : Below w.heap.size w W3 := by
    rw [hW3]; exact hw2.trans ⟨rfl, rfl, rfl, by simp, fun k hk => World.putObj_heap_other (by omega)⟩
  rw [← hW3]
  have HG3 := Lib.hid (hG.below hw3)
  have HO3 := Lib.hid o3'
  have HD3 := Lib.hid hD3
  have c3' := b3'.cell
  have HWD := Lib.hid hwD
  clear hW3 hR hY key hlo hDl hwD hl2 hD2 b3 o3 hw2 hW1 hbB hD hL hb12 hwW hwb hsz hbA x1 x2 hb1 hb2 ho1 ho2 hG o3' b3' hD3 hW0
  gi_wp2_with (refine ⟨trivial, ?_⟩; gi_at_call 69; refine (callsIn_wide.2 (text_mag false A3 n3 c3 _ _ _ HO3.out HG3.out (Nat.le_trans hn3 (by decide)))).mono ?_; rintro e w5 ⟨rfl, hb5⟩)
  have hD5 := (hb5.block W0.heap.size (Array.getElem?_eq_some_iff.1 HD3.out).1).trans HD3.out
  refine ⟨by simp, .inl ⟨_, _, rfl, run_takeDeferred hD5, ?_⟩⟩
  refine ⟨_, results_tmp rfl _ _ _, ?_⟩
  refine ⟨rfl, (bto hw3 hb5).trans ⟨rfl, rfl, rfl, by simp, fun k hk => World.putObj_heap_other (by have := HWD.out; omega)⟩⟩
end Go.Proofs.YtjhafnnfkaejgaaGreatDoor
