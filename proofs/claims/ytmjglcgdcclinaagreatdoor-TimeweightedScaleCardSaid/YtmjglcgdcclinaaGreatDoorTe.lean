/- The product of whatever an iterator yields; its collection: package timeweighted, slices.Collect. -/
import Derived.Test.YtmjglcgdcclinaaGreatDoorTd
import Derived.Test.YtmjglcgdcclinaaGreatDoorTc
import Derived.RangeFuncBox
import Derived.OwnWalkIn
namespace Go.Proofs.YtmjglcgdcclinaaGreatDoor
open Go.RowKit Go.Shelf Num
attribute [local go_sem] Oper.semAt_some
/-- the state of product behind the factors ys -/
structure PrAt (w : World) (R : Loop) (o d l M : Nat) (ys : List Rat) (W : World) : Prop where
  below : Below w.heap.size w W
  loop : W.heap[l]? = some (.loop R)
  dfr : W.heap[d]? = some (.deferred (some []))
  res : Blk W w.heap.size #[.string ⟨#[]⟩, .string ⟨#[]⟩]
  out : Blk W o #[.string ⟨(fN (prodQ 1 ys)).toArray⟩, .string ⟨(fD (prodQ 1 ys)).toArray⟩]
  bd : ∀ q ∈ ys, Bd M q
section
variable {w W W' : World} {R : Loop} {o d l M : Nat} {ys : List Rat}
theorem PrAt.mono (h : PrAt w R o d l M ys W) (hb : Below W.heap.size W W') : PrAt w R o d l M ys W' :=
  ⟨bto h.below hb, (hb.block _ (Array.getElem?_eq_some_iff.1 h.loop).1).trans h.loop, (hb.block _ (Array.getElem?_eq_some_iff.1 h.dfr).1).trans h.dfr, h.res.below hb, h.out.below hb, h.bd⟩
theorem PrAt.done {R1 R2 : Loop} (hR : R2 = R) (hl : l ≠ d ∧ l ≠ o ∧ l ≠ w.heap.size ∧ w.heap.size ≤ l) (h : PrAt w R1 o d l M ys W) : PrAt w R o d l M ys (W.putObj l (.loop R2)) := by
  subst hR
  exact ⟨below_put h.below hl.2.2.2, World.putObj_heap_same (Array.getElem?_eq_some_iff.1 h.loop).1, (World.putObj_heap_other (by omega)).trans h.dfr, h.res.putO (by omega), h.out.putO (by omega), h.bd⟩
theorem PrAt.step (h : PrAt w R o d l M ys W) {y : Rat} (hy : Bd M y) (hl : l ≠ o ∧ d ≠ o ∧ w.heap.size ≠ o ∧ w.heap.size ≤ o) :
    PrAt w R o d l M (ys ++ [y]) ((W.setCell ⟨o, 0, none⟩ (.string ⟨(fN (prodQ 1 ys * y)).toArray⟩)).setCell ⟨o, 1, none⟩ (.string ⟨(fD (prodQ 1 ys * y)).toArray⟩)) := by
  have e := prodQ_snoc ys 1 y
  refine ⟨(h.below.setCell (p := ⟨_, 0, none⟩) hl.2.2.2 _).setCell (p := ⟨_, 1, none⟩) hl.2.2.2 _, setCell_loop (setCell_loop h.loop hl.1) hl.1, setCell_loop (setCell_loop h.dfr hl.2.1) hl.2.1, (h.res.setO hl.2.2.1).setO hl.2.2.1, ?_, ?_⟩
  · rw [e]; exact h.out.set2 _ _
  · intro q hq
    rcases List.mem_append.1 hq with hq | hq
    · exact h.bd q hq
    · rw [List.mem_singleton.1 hq]; exact hy
end
set_option maxHeartbeats 4000000 in
set_option maxRecDepth 100000 in
theorem twProduct (gf : Nat) (lb : Array Value) (qs : List Rat) (M : Nat) (w : World) (hG : Glob w) (hEn : ∀ args w, (callFunc gf args).run Tryz.prog w = .ok (.enter gf args) w) (hI : IterOk w gf lb qs M) (hM : 1 + M * qs.length + M ≤ 90000) :
    Calls Tryz.prog 77 #[.func (.func gf) #[] lb] w fun e w' => e = .returned (Value.agg #[Value.string ⟨List.toArray (fN (prodQ 1 qs))⟩, Value.string ⟨List.toArray (fD (prodQ 1 qs))⟩]) ∧ Below w.heap.size w w' := by
  have c0 : Ret 37 #[.string ⟨[49].toArray⟩] (Value.agg #[Value.string ⟨List.toArray (fN ((1 : Rat)))⟩, Value.string ⟨List.toArray (fD ((1 : Rat)))⟩]) := by have h := rOf (l := [49]) (by decide) (z := 1) (by decide); exact h
  have C0 := Lib.hid c0
  have HI := Lib.hid hI
  have HE := Lib.hid hEn
  have hb0 := below_alloc w (.cells #[.string ⟨#[]⟩, .string ⟨#[]⟩] 32)
  clear c0 hI hEn
  refine (callsIn_wide (n := 5)).1 ?_
  refine callsIn_of_wp_marks Tryz.func77 rfl trivial ?_ rfl
  simp only [Tryz.ntmps77, List.size_toArray, List.length_cons, List.length_nil, Nat.reduceAdd, Nat.reduceSub, Array.replicate_succ, Array.replicate_zero, List.push_toArray, List.append_toArray, List.nil_append, List.cons_append]
  gi_wp2_with (refine ⟨trivial, ?_⟩; gi_at_call 37; (with_reducible refine (callsIn_wide.2 (C0.out.of hG hb0)).mono ?_); rintro e w3 ⟨rfl, hb3⟩)
  refine range_goes (gf := gf) (lb := lb) rfl HE.out ?_
  intro fn R hR
  have hs3 : w.heap.size + 1 ≤ w3.heap.size := by have := hb3.size; simpa using this
  have y2 : Blk w3 w.heap.size #[.string ⟨#[]⟩, .string ⟨#[]⟩] := (Blk.new w _ 32).below hb3
  obtain ⟨W0, hW0⟩ : ∃ W0, W0 = w3.alloc (.cells #[.string ⟨(fN ((1 : Rat))).toArray⟩, .string ⟨(fD ((1 : Rat))).toArray⟩] 32) := ⟨_, rfl⟩
  have hsz : W0.heap.size = w3.heap.size + 1 := by rw [hW0]; simp only [World.size_alloc]
  have hbA : Below w.heap.size w W0 := by rw [hW0]; exact bto (bto hb0 hb3) (below_alloc _ _)
  have x2 : Blk W0 w.heap.size #[.string ⟨#[]⟩, .string ⟨#[]⟩] := by rw [hW0]; exact y2.below (below_alloc _ _)
  have x3 : Blk W0 w3.heap.size #[.string ⟨(fN (1 : Rat)).toArray⟩, .string ⟨(fD (1 : Rat)).toArray⟩] := by rw [hW0]; exact Blk.new _ _ _
  rw [← hW0] at hR ⊢
  clear hW0 y2
  obtain ⟨W1, hW1⟩ : ∃ W1, W1 = (W0.alloc (.deferred (some []))).alloc (.loop R) := ⟨_, rfl⟩
  have hbB : Below W0.heap.size W0 W1 := by rw [hW1]; exact bto (below_alloc _ _) (below_alloc _ _)
  have hD : W1.heap[W0.heap.size]? = some (.deferred (some [])) := by rw [hW1]; exact (Below.heap_alloc _ _ _ (by simp)).trans (World.alloc_heap_new _ _)
  have hL : W1.heap[W0.heap.size + 1]? = some (.loop R) := by
    rw [hW1]
    have := World.alloc_heap_new (W0.alloc (.deferred (some []))) (.loop R)
    rwa [World.size_alloc] at this
  rw [← hW1]
  obtain ⟨l, hl⟩ : ∃ l, l = W0.heap.size + 1 := ⟨_, rfl⟩
  obtain ⟨d, hd⟩ : ∃ d, d = W0.heap.size := ⟨_, rfl⟩
  obtain ⟨o, ho⟩ : ∃ o, o = w3.heap.size := ⟨_, rfl⟩
  rw [← hl] at hL ⊢
  rw [← hd] at hD hR ⊢
  rw [← ho] at x3 hR
  have hS0 : PrAt w R o d l M [] W1 := ⟨bto hbA hbB, hL, hD, x2.below hbB, x3.below hbB, fun q hq => by cases hq⟩
  have n1 : l ≠ d ∧ l ≠ o ∧ l ≠ w.heap.size ∧ w.heap.size ≤ l := by omega
  have n2 : l ≠ o ∧ d ≠ o ∧ w.heap.size ≠ o ∧ w.heap.size ≤ o := by omega
  have n3 : w.heap.size ≤ d ∧ d ≠ w.heap.size := by omega
  (try rw [← ho])
  clear hW1 hbB hD hL x2 x3 hbA hsz hl hd ho hs3 hb3 C0
  have hY : ∀ ys y W, PrAt w R o d l M ys W → Bd M y → ys.length < qs.length → YieldAt Fence.wide (5 - 1 - 1) Tryz.prog l #[(Value.agg #[Value.string ⟨List.toArray (fN y)⟩, Value.string ⟨List.toArray (fD y)⟩])] W fun e W' => e = .returned (.bool true) ∧ PrAt w R o d l M (ys ++ [y]) W' := by
    intro ys y W hS hyb hlen
    have hy := run_yield (P := Tryz.prog) (args := #[(Value.agg #[Value.string ⟨List.toArray (fN y)⟩, Value.string ⟨List.toArray (fD y)⟩])]) hS.loop (by rw [hR]; rfl)
    refine ⟨R.fn, _, R.assign, R.body, hy, roundIn_of_wpIn trivial ?_⟩
    have hlW := (Array.getElem?_eq_some_iff.1 hS.loop).1
    have hSa := hS.mono (below_alloc W (.cells #[.string ⟨(fN (y)).toArray⟩, .string ⟨(fD (y)).toArray⟩] 32))
    have hbr := run_beginRound (P := Tryz.prog) hSa.loop (by rw [hR])
    have hS1 : PrAt w { R with state := .busy } o d l M ys ((W.alloc (.cells #[.string ⟨(fN (y)).toArray⟩, .string ⟨(fD (y)).toArray⟩] 32)).putObj l (.loop { R with state := .busy })) := PrAt.done rfl n1 hSa
    have x4 : Blk ((W.alloc (.cells #[.string ⟨(fN (y)).toArray⟩, .string ⟨(fD (y)).toArray⟩] 32)).putObj l (.loop { R with state := .busy })) W.heap.size #[.string ⟨(fN y).toArray⟩, .string ⟨(fD y).toArray⟩] := (Blk.new W _ 32).putO (by omega)
    obtain ⟨Wb, hWb⟩ : ∃ Wb, Wb = (W.alloc (.cells #[.string ⟨(fN (y)).toArray⟩, .string ⟨(fD (y)).toArray⟩] 32)).putObj l (.loop { R with state := .busy }) := ⟨_, rfl⟩
    rw [← hWb] at hbr hS1 x4
    have hRe : ({ { R with state := .busy } with state := .ready, pending := none } : Loop) = R := by rw [hR]
    obtain ⟨R1, hR1⟩ : ∃ R1, R1 = { R with state := .busy } := ⟨_, rfl⟩
    rw [← hR1] at hS1 hRe
    have hxb : Bd (1 + M * ys.length) (prodQ 1 ys) := prodQ_bd ys bd_one hS1.bd
    have hlen2 : M * ys.length ≤ M * qs.length := Nat.mul_le_mul_left M (by omega)
    have HS2 := Lib.hid hS1
    have HC := Lib.hid (rMul (isq_fr hxb (by omega)) (isq_fr hyb (by omega)) rfl)
    have HST : Hid (∀ W', PrAt w R1 o d l M ys W' → PrAt w R1 o d l M (ys ++ [y]) ((W'.setCell ⟨o, 0, none⟩ (.string ⟨(fN (prodQ 1 ys * y)).toArray⟩)).setCell ⟨o, 1, none⟩ (.string ⟨(fD (prodQ 1 ys * y)).toArray⟩))) := fun W' h => h.step hyb n2
    have HBr := Lib.hid hbr
    have HRe := Lib.hid hRe
    obtain ⟨x, hx⟩ : ∃ x, x = prodQ 1 ys := ⟨_, rfl⟩
    obtain ⟨z, hz⟩ : ∃ z, z = prodQ 1 ys * y := ⟨_, rfl⟩
    rw [← hz] at HC HST
    have q0 : Wb.cell? ⟨o, 0, none⟩ = some (.string ⟨(fN x).toArray⟩) := by rw [hx]; exact HS2.out.out.c 0
    have q1 : Wb.cell? ⟨o, 1, none⟩ = some (.string ⟨(fD x).toArray⟩) := by rw [hx]; exact HS2.out.out.c 1
    rw [← hx] at HC
    have p0 : Wb.cell? ⟨W.heap.size, 0, none⟩ = some (.string ⟨(fN y).toArray⟩) := x4.c 0
    have p1 : Wb.cell? ⟨W.heap.size, 1, none⟩ = some (.string ⟨(fD y).toArray⟩) := x4.c 1
    have hbW := HS2.out.below
    have HX := Lib.hid hx
    clear hWb hbr hy hS hSa hlW hS1 hRe hR1 hxb hlen hlen2 hyb x4 hx hz hS0
    rw [hR]
    gi_wp2
    refine ⟨_, HBr.out, ?_⟩
    gi_wp2_with fail
    refine ⟨trivial, ?_⟩
    refine (CallsIn.inRound l (callsIn_wide.2 (HC.out.of hG hbW))).mono ?_
    rintro e w4 ⟨rfl, hb4⟩
    have HS4 := Lib.hid (HS2.out.mono hb4)
    have HGO := Lib.hid (HST.out _ HS4.out)
    have hF := HS4.out.out.box
    have g0 := hF.c0
    have g1 := hF.c1
    have g2 := hF.f0
    have g3 := hF.f1
    rw [← HX.out] at g0 g1
    clear q0 q1 p0 p1 HC hbW HS2 HS4 hb4 hF HBr HST HX
    gi_wp2
    exact ⟨_, _, run_endRound (P := Tryz.prog) none HGO.out.loop, rfl, PrAt.done (HRe.out.trans hR) n1 HGO.out⟩
  have key := HI.out (5 - 1) l (PrAt w R o d l M) (fun ys W h => h.below) (fun ys W W' h hb => h.mono hb) hY W1 hS0
  refine key.mono ?_
  rintro e W2 ⟨hv, hS2⟩
  refine ⟨hv, hS2.loop, ?_⟩
  have hS3 : PrAt w { R with state := .exhausted } o d l M qs (W2.putObj l (.loop { R with state := .exhausted })) := PrAt.done rfl n1 hS2
  obtain ⟨W3, hW3⟩ : ∃ W3, W3 = W2.putObj l (.loop { R with state := .exhausted }) := ⟨_, rfl⟩
  rw [← hW3] at hS3 ⊢
  have hF := hS3.out.box
  have hH := hS3.res.box
  have q0 := hF.c0
  have q1 := hF.c1
  have g0 := hH.c0
  have g1 := hH.c1
  have g2 := hH.f0
  have g3 := hH.f1
  have hD5 := hS3.dfr
  have hb5 := hS3.below
  have HBk := Lib.hid (hS3.res.set2 (.string ⟨(fN (prodQ 1 qs)).toArray⟩) (.string ⟨(fD (prodQ 1 qs)).toArray⟩))
  clear hW3 hS3 key hY hS2 hS0 hv hF hH HI
  obtain ⟨q, hq⟩ : ∃ q, q = prodQ 1 qs := ⟨_, rfl⟩
  have HQ := Lib.hid hq
  rw [← hq] at q0 q1 HBk
  clear hq
  gi_wp2
  have hD6 := setCell_loop (i := 1) (u := .string ⟨(fD q).toArray⟩) (setCell_loop (i := 0) (u := .string ⟨(fN q).toArray⟩) hD5 n3.2) n3.2
  have hP := HBk.out.putO (l := d) (ob := .deferred none) (by omega)
  have d0 := hP.c 0
  have d1 := hP.c 1
  refine ⟨by simp, .inl ⟨_, _, rfl, run_takeDeferred hD6, ?_⟩⟩
  refine ⟨(Value.agg #[Value.string ⟨List.toArray (fN q)⟩, Value.string ⟨List.toArray (fD q)⟩]), by simp [results, Tryz.results77, go_sem, d0, d1], ?_⟩
  exact ⟨by rw [HQ.out], below_put (below_set2 hb5 (Nat.le_refl _) _ _) n3.1⟩
theorem own_belowN {w w' : World} {B k sz : Nat} {ty : TypeId} {v : Value} {cs : List Value} (h : w.ownsRow B ty sz v k cs) (hb : Below w.heap.size w w') : w'.ownsRow B ty sz v k cs := by
  refine ⟨h.1, ?_⟩
  rcases h.2 with h2 | ⟨g, cap, cur, e, hB, hg, r⟩
  · exact .inl h2
  · exact .inr ⟨g, cap, cur, e, hB, (hb.block g (Array.getElem?_eq_some_iff.1 hg).1).trans hg, r⟩
/-- the state of AppendSeq behind the numbers ys -/
structure CoAt (w : World) (R : Loop) (d l : Nat) (ys : List Rat) (W : World) : Prop where
  below : Below w.heap.size w W
  loop : W.heap[l]? = some (.loop R)
  dfr : W.heap[d]? = some (.deferred (some []))
  row : ∃ v, Boxed W w.heap.size 41 v ∧ W.ownsRow w.heap.size 32 2 v ys.length (rowsF (frs ys))
section
variable {w W W' : World} {R : Loop} {d l : Nat} {ys : List Rat}
theorem CoAt.mono (h : CoAt w R d l ys W) (hb : Below W.heap.size W W') : CoAt w R d l ys W' :=
  ⟨bto h.below hb, (hb.block _ (Array.getElem?_eq_some_iff.1 h.loop).1).trans h.loop, (hb.block _ (Array.getElem?_eq_some_iff.1 h.dfr).1).trans h.dfr, by
    obtain ⟨v, h1, h2⟩ := h.row
    exact ⟨v, (hb.block _ h1.lt).trans h1, own_belowN h2 hb⟩⟩
theorem CoAt.done {R1 R2 : Loop} (hR : R2 = R) (hl : l ≠ d ∧ l ≠ w.heap.size ∧ w.heap.size ≤ l) (h : CoAt w R1 d l ys W) : CoAt w R d l ys (W.putObj l (.loop R2)) := by
  subst hR
  refine ⟨below_put h.below hl.2.2, World.putObj_heap_same (Array.getElem?_eq_some_iff.1 h.loop).1, (World.putObj_heap_other (by omega)).trans h.dfr, ?_⟩
  obtain ⟨v, h1, h2⟩ := h.row
  exact ⟨v, (World.putObj_heap_other (Ne.symm hl.2.1)).trans h1, ownsRow_putObj h2 _ h.loop rfl⟩
end
set_option maxHeartbeats 4000000 in
set_option maxRecDepth 100000 in
theorem appendSeq_any (gf : Nat) (lb : Array Value) (qs : List Rat) (M : Nat) (w : World) (hEn : ∀ args w, (callFunc gf args).run Tryz.prog w = .ok (.enter gf args) w) (hI : IterOk w gf lb qs M) (hM : qs.length ≤ 100000) :
    Calls Tryz.prog 142 #[.slice none 0 0, .func (.func gf) #[] lb] w fun e w' => ∃ v, e = .returned v ∧ w'.ownsRow w.heap.size 32 2 v qs.length (rowsF (frs qs)) ∧ Below w.heap.size w w' := by
  have HI := Lib.hid hI
  have HE := Lib.hid hEn
  obtain ⟨i0, hi, hz0, hz1, hz2⟩ := info_parts info_frac
  have hb0 := below_alloc w (.cells #[.slice none 0 0] 41)
  clear hI hEn
  refine (callsIn_wide (n := 5)).1 ?_
  refine callsIn_of_wp_marks Tryz.func142 rfl trivial ?_ rfl
  simp only [Tryz.ntmps142, List.size_toArray, List.length_cons, List.length_nil, Nat.reduceAdd, Nat.reduceSub, Array.replicate_succ, Array.replicate_zero, List.push_toArray, List.append_toArray, List.nil_append, List.cons_append]
  gi_wp2_with fail
  refine range_goes (gf := gf) (lb := lb) rfl HE.out ?_
  intro fn R hR
  obtain ⟨W0, hW0⟩ : ∃ W0, W0 = w.alloc (.cells #[.slice none 0 0] 41) := ⟨_, rfl⟩
  have hsz : W0.heap.size = w.heap.size + 1 := by rw [hW0]; simp only [World.size_alloc]
  have x2 : Boxed W0 w.heap.size 41 (.slice none 0 0) := by rw [hW0]; exact Boxed.new _ _ _
  rw [← hW0] at hR hb0 ⊢
  clear hW0
  obtain ⟨W1, hW1⟩ : ∃ W1, W1 = (W0.alloc (.deferred (some []))).alloc (.loop R) := ⟨_, rfl⟩
  have hbB : Below W0.heap.size W0 W1 := by rw [hW1]; exact bto (below_alloc _ _) (below_alloc _ _)
  have hD : W1.heap[W0.heap.size]? = some (.deferred (some [])) := by rw [hW1]; exact (Below.heap_alloc _ _ _ (by simp)).trans (World.alloc_heap_new _ _)
  have hL : W1.heap[W0.heap.size + 1]? = some (.loop R) := by
    rw [hW1]
    have := World.alloc_heap_new (W0.alloc (.deferred (some []))) (.loop R)
    rwa [World.size_alloc] at this
  rw [← hW1]
  obtain ⟨l, hl⟩ : ∃ l, l = W0.heap.size + 1 := ⟨_, rfl⟩
  obtain ⟨d, hd⟩ : ∃ d, d = W0.heap.size := ⟨_, rfl⟩
  rw [← hl] at hL ⊢
  rw [← hd] at hD hR ⊢
  have hS0 : CoAt w R d l [] W1 := ⟨bto hb0 hbB, hL, hD, ⟨_, (hbB.block _ x2.lt).trans x2, World.ownsRow_nil _ _ _ 2⟩⟩
  have n1 : l ≠ d ∧ l ≠ w.heap.size ∧ w.heap.size ≤ l := by omega
  have n3 : w.heap.size ≤ d ∧ d ≠ w.heap.size := by omega
  clear hW1 hbB hD hL x2 hb0 hsz hl hd
  have hY : ∀ ys y W, CoAt w R d l ys W → Bd M y → ys.length < qs.length → YieldAt Fence.wide (5 - 1 - 1) Tryz.prog l #[(Value.agg #[Value.string ⟨List.toArray (fN y)⟩, Value.string ⟨List.toArray (fD y)⟩])] W fun e W' => e = .returned (.bool true) ∧ CoAt w R d l (ys ++ [y]) W' := by
    intro ys y W hS hyb hlen
    have hy := run_yield (P := Tryz.prog) (args := #[(Value.agg #[Value.string ⟨List.toArray (fN y)⟩, Value.string ⟨List.toArray (fD y)⟩])]) hS.loop (by rw [hR]; rfl)
    refine ⟨R.fn, _, R.assign, R.body, hy, roundIn_of_wpIn trivial ?_⟩
    have hlW := (Array.getElem?_eq_some_iff.1 hS.loop).1
    have hSa := hS.mono (below_alloc W (.cells #[.string ⟨(fN (y)).toArray⟩, .string ⟨(fD (y)).toArray⟩] 32))
    have hbr := run_beginRound (P := Tryz.prog) hSa.loop (by rw [hR])
    have hS1 : CoAt w { R with state := .busy } d l ys ((W.alloc (.cells #[.string ⟨(fN (y)).toArray⟩, .string ⟨(fD (y)).toArray⟩] 32)).putObj l (.loop { R with state := .busy })) := CoAt.done rfl n1 hSa
    have x4 : Blk ((W.alloc (.cells #[.string ⟨(fN (y)).toArray⟩, .string ⟨(fD (y)).toArray⟩] 32)).putObj l (.loop { R with state := .busy })) W.heap.size #[.string ⟨(fN y).toArray⟩, .string ⟨(fD y).toArray⟩] := (Blk.new W _ 32).putO (by omega)
    obtain ⟨Wc, hWc⟩ : ∃ Wc, Wc = (W.alloc (.cells #[.string ⟨(fN (y)).toArray⟩, .string ⟨(fD (y)).toArray⟩] 32)).putObj l (.loop { R with state := .busy }) := ⟨_, rfl⟩
    rw [← hWc] at hbr hS1 x4
    have hRe : ({ { R with state := .busy } with state := .ready, pending := none } : Loop) = R := by rw [hR]
    obtain ⟨R1, hR1⟩ : ∃ R1, R1 = { R with state := .busy } := ⟨_, rfl⟩
    rw [← hR1] at hS1 hRe
    obtain ⟨v, hv, hrow⟩ := hS1.row
    have hbc := hS1.below
    have hc := hv.cell
    have p0 : Wc.cell? ⟨W.heap.size, 0, none⟩ = some (.string ⟨(fN y).toArray⟩) := x4.c 0
    have p1 : Wc.cell? ⟨W.heap.size, 1, none⟩ = some (.string ⟨(fD y).toArray⟩) := x4.c 1
    have HBr := Lib.hid hbr
    have HRe := Lib.hid hRe
    have HS2 := Lib.hid hS1
    clear hWc hbr hy hS hSa hlW hS1 hRe hR1 hyb hS0
    rw [hR]
    gi_wp2
    refine ⟨_, HBr.out, ?_⟩
    gi_wp2_with (gi_at_builtin; refine wpListIn_append_own _ rfl _ _ 41 rfl w.heap.size 32 i0 (.agg #[.string ⟨#[]⟩, .string ⟨#[]⟩]) 2 32 Tryz.underlying41 hi hz0 hz1 hz2 rfl (by decide) _ _ _ rfl (own_belowN hrow (below_alloc _ _)) ⟨Wc.heap.size, 0, none⟩ 1 1 [.string ⟨(fN y).toArray⟩, .string ⟨(fD y).toArray⟩] rfl rfl ?c1 ?c2 ?c3 ?c4 ?c5 ?_)
    case c1 =>
      intro j u hu
      match j with
      | 0 => simp at hu; subst hu; rw [Lib.add_plain]; simp [go_sem]
      | 1 => simp at hu; subst hu; rw [Lib.add_plain]; simp [go_sem]
      | j + 2 => simp at hu
    case c2 =>
      intro u hu
      simp at hu
      rcases hu with rfl | rfl <;> rfl
    case c3 => unfold maxLen; omega
    case c4 => omega
    case c5 => have := hbc.size; simp; omega
    intro v' w1 hown' hgrow _
    obtain ⟨g', cap', rfl⟩ := ownsRow_succ hown'
    obtain ⟨hv1, hv2, hr2, hk2, hb2⟩ := hv.appended (by decide) hrow hbc.size (Nat.le_refl _) hown' hgrow
    have hc1 := hv1.cell
    have hf1 := hv1.frozen
    have HGO : Hid (CoAt w R1 d l (ys ++ [y]) (w1.setCell ⟨w.heap.size, 0, none⟩ (.slice (some ⟨g', 0, none⟩) (ys.length + 1) cap'))) := by
      refine ⟨hbc.trans hb2, hk2.same _ _ HS2.out.loop rfl, hk2.same _ _ HS2.out.dfr rfl, _, hv2, ?_⟩
      have e1 : (ys ++ [y]).length = ys.length + 1 := by simp
      have e2 : rowsF (frs (ys ++ [y])) = rowsF (frs ys) ++ [.string ⟨(fN y).toArray⟩, .string ⟨(fD y).toArray⟩] := by
        unfold frs; rw [List.map_append, rowsF_app]; rfl
      rw [e1, e2]; exact hr2
    clear hown' hgrow hv1 hv2 hr2 hk2 hb2 hv hrow hc p0 p1 HS2 x4
    gi_wp2
    exact ⟨_, _, run_endRound (P := Tryz.prog) none HGO.out.loop, rfl, CoAt.done (HRe.out.trans hR) n1 HGO.out⟩
  have key := HI.out (5 - 1) l (CoAt w R d l) (fun ys W h => h.below) (fun ys W W' h hb => h.mono hb) hY W1 hS0
  refine key.mono ?_
  rintro e W2 ⟨hv, hS2⟩
  refine ⟨hv, hS2.loop, ?_⟩
  have hS3 : CoAt w { R with state := .exhausted } d l qs (W2.putObj l (.loop { R with state := .exhausted })) := CoAt.done rfl n1 hS2
  obtain ⟨W3, hW3⟩ : ∃ W3, W3 = W2.putObj l (.loop { R with state := .exhausted }) := ⟨_, rfl⟩
  rw [← hW3] at hS3 ⊢
  obtain ⟨v, hv, hrow⟩ := hS3.row
  have q0 := hv.cell
  have hD5 := hS3.dfr
  have hb5 := hS3.below
  have HR := Lib.hid (ownsRow_putObj hrow (.deferred none) hD5 rfl)
  clear hW3 hS3 key hY hS2 hS0 hrow HI
  gi_wp2
  refine ⟨by simp, .inl ⟨_, _, rfl, run_takeDeferred hD5, ?_⟩⟩
  refine ⟨_, results_tmp rfl _ _ _, v, rfl, HR.out, below_put hb5 n3.1⟩
set_option maxHeartbeats 1000000 in
set_option maxRecDepth 100000 in
theorem collect_any (gf : Nat) (lb : Array Value) (qs : List Rat) (M : Nat) (w : World) (hEn : ∀ args w, (callFunc gf args).run Tryz.prog w = .ok (.enter gf args) w) (hI : IterOk w gf lb qs M) (hM : qs.length ≤ 100000) :
    Calls Tryz.prog 73 #[.func (.func gf) #[] lb] w fun e w' => ∃ v, e = .returned v ∧ w'.ownsRow w.heap.size 32 2 v qs.length (rowsF (frs qs)) ∧ Below w.heap.size w w' := by
  have C1 := Lib.hid (appendSeq_any gf lb qs M w hEn hI hM)
  clear hEn hI
  go_enter Tryz.func73, Tryz.ntmps73
  go_wp2_with fail
  refine C1.out.mono ?_
  rintro e w2 ⟨v, rfl, h1, h2⟩
  go_wp2
  go_ret
  exact ⟨_, rfl, h1, h2⟩
end Go.Proofs.YtmjglcgdcclinaaGreatDoor
