/- Texts put together: Te Tf Ps Bx Tg. -/
import Derived.Test.YtgnppdkeiihlfaaGreatDoorT9
import Derived.RangeFuncBox
import Derived.OwnWalkIn
namespace Go.Proofs.YtgnppdkeiihlfaaGreatDoor
open Go.RowKit Go.Shelf Num
attribute [local go_sem] Oper.semAt_some
/-- the state of product behind the factors ys -/
structure PrAt (w : World) (R : Loop) (o d l M : Nat) (ys : List Rat) (W : World) : Prop where
  below : Below w.heap.size w W
  loop : W.heap[l]? = some (.loop R)
  dfr : W.heap[d]? = some (.deferred (some []))
  res : Blk W w.heap.size #[.string ⟨#[]⟩, .string ⟨#[]⟩]
  out : Blk W o #[.string ⟨(fN (prodQ 1 ys)).toArray⟩, .string ⟨(fD (prodQ 1 ys)).toArray⟩]
  bd : ∀ q ∈ ys, Bd M q
section
variable {w W W' : World} {R : Loop} {o d l M : Nat} {ys : List Rat}
theorem PrAt.mono (h : PrAt w R o d l M ys W) (hb : Below W.heap.size W W') : PrAt w R o d l M ys W' :=
  ⟨bto h.below hb, (hb.block _ (Array.getElem?_eq_some_iff.1 h.loop).1).trans h.loop, (hb.block _ (Array.getElem?_eq_some_iff.1 h.dfr).1).trans h.dfr, h.res.below hb, h.out.below hb, h.bd⟩
theorem PrAt.done {R1 R2 : Loop} (hR : R2 = R) (hl : l ≠ d ∧ l ≠ o ∧ l ≠ w.heap.size ∧ w.heap.size ≤ l) (h : PrAt w R1 o d l M ys W) : PrAt w R o d l M ys (W.putObj l (.loop R2)) := by
  subst hR
  exact ⟨below_put h.below hl.2.2.2, World.putObj_heap_same (Array.getElem?_eq_some_iff.1 h.loop).1, (World.putObj_heap_other (by omega)).trans h.dfr, h.res.putO (by omega), h.out.putO (by omega), h.bd⟩
theorem PrAt.step (h : PrAt w R o d l M ys W) {y : Rat} (hy : Bd M y) (hl : l ≠ o ∧ d ≠ o ∧ w.heap.size ≠ o ∧ w.heap.size ≤ o) :
    PrAt w R o d l M (ys ++ [y]) ((W.setCell ⟨o, 0, none⟩ (.string ⟨(fN (prodQ 1 ys * y)).toArray⟩)).setCell ⟨o, 1, none⟩ (.string ⟨(fD (prodQ 1 ys * y)).toArray⟩)) := by
  have e := prodQ_snoc ys 1 y
  refine ⟨(h.below.setCell (p := ⟨_, 0, none⟩) hl.2.2.2 _).setCell (p := ⟨_, 1, none⟩) hl.2.2.2 _, setCell_loop (setCell_loop h.loop hl.1) hl.1, setCell_loop (setCell_loop h.dfr hl.2.1) hl.2.1, (h.res.setO hl.2.2.1).setO hl.2.2.1, ?_, ?_⟩
  · rw [e]; exact h.out.set2 _ _
  · intro q hq
    rcases List.mem_append.1 hq with hq | hq
    · exact h.bd q hq
    · rw [List.mem_singleton.1 hq]; exact hy
end
set_option maxHeartbeats 4000000 in
set_option maxRecDepth 100000 in
theorem twProduct (gf : Nat) (lb : Array Value) (qs : List Rat) (M : Nat) (w : World) (hG : Glob w) (hEn : ∀ args w, (callFunc gf args).run Tryz.prog w = .ok (.enter gf args) w) (hI : IterOk w gf lb qs M) (hM : 1 + M * qs.length + M ≤ 90000) :
    Calls Tryz.prog 125 #[.func (.func gf) #[] lb] w fun e w' => e = .returned (Value.agg #[Value.string ⟨List.toArray (fN (prodQ 1 qs))⟩, Value.string ⟨List.toArray (fD (prodQ 1 qs))⟩]) ∧ Below w.heap.size w w' := by
  have c0 : Ret 40 #[.string ⟨[49].toArray⟩] (Value.agg #[Value.string ⟨List.toArray (fN ((1 : Rat)))⟩, Value.string ⟨List.toArray (fD ((1 : Rat)))⟩]) := by have h := rOf (l := [49]) (by decide) (z := 1) (by decide); exact h
  have C0 := Lib.hid c0
  have HI := Lib.hid hI
  have HE := Lib.hid hEn
  have hb0 := below_alloc w (.cells #[.string ⟨#[]⟩, .string ⟨#[]⟩] 25)
  clear c0 hI hEn
  refine (callsIn_wide (n := 5)).1 ?_
  refine callsIn_of_wp_marks Tryz.func125 rfl trivial ?_ rfl
  simp only [Tryz.ntmps125, List.size_toArray, List.length_cons, List.length_nil, Nat.reduceAdd, Nat.reduceSub, Array.replicate_succ, Array.replicate_zero, List.push_toArray, List.append_toArray, List.nil_append, List.cons_append]
  gi_wp2_with (refine ⟨trivial, ?_⟩; gi_at_call 40; (with_reducible refine (callsIn_wide.2 (C0.out.of hG hb0)).mono ?_); rintro e w3 ⟨rfl, hb3⟩)
  refine range_goes (gf := gf) (lb := lb) rfl HE.out ?_
  intro fn R hR
  have hs3 : w.heap.size + 1 ≤ w3.heap.size := by have := hb3.size; simpa using this
  have y2 : Blk w3 w.heap.size #[.string ⟨#[]⟩, .string ⟨#[]⟩] := (Blk.new w _ 25).below hb3
  obtain ⟨W0, hW0⟩ : ∃ W0, W0 = w3.alloc (.cells #[.string ⟨(fN ((1 : Rat))).toArray⟩, .string ⟨(fD ((1 : Rat))).toArray⟩] 25) := ⟨_, rfl⟩
  have hsz : W0.heap.size = w3.heap.size + 1 := by rw [hW0]; simp only [World.size_alloc]
  have hbA : Below w.heap.size w W0 := by rw [hW0]; exact bto (bto hb0 hb3) (below_alloc _ _)
  have x2 : Blk W0 w.heap.size #[.string ⟨#[]⟩, .string ⟨#[]⟩] := by rw [hW0]; exact y2.below (below_alloc _ _)
  have x3 : Blk W0 w3.heap.size #[.string ⟨(fN (1 : Rat)).toArray⟩, .string ⟨(fD (1 : Rat)).toArray⟩] := by rw [hW0]; exact Blk.new _ _ _
  rw [← hW0] at hR ⊢
  clear hW0 y2
  obtain ⟨W1, hW1⟩ : ∃ W1, W1 = (W0.alloc (.deferred (some []))).alloc (.loop R) := ⟨_, rfl⟩
  have hbB : Below W0.heap.size W0 W1 := by rw [hW1]; exact bto (below_alloc _ _) (below_alloc _ _)
  have hD : W1.heap[W0.heap.size]? = some (.deferred (some [])) := by rw [hW1]; exact (Below.heap_alloc _ _ _ (by simp)).trans (World.alloc_heap_new _ _)
  have hL : W1.heap[W0.heap.size + 1]? = some (.loop R) := by
    rw [hW1]
    have := World.alloc_heap_new (W0.alloc (.deferred (some []))) (.loop R)
    rwa [World.size_alloc] at this
  rw [← hW1]
  obtain ⟨l, hl⟩ : ∃ l, l = W0.heap.size + 1 := ⟨_, rfl⟩
  obtain ⟨d, hd⟩ : ∃ d, d = W0.heap.size := ⟨_, rfl⟩
  obtain ⟨o, ho⟩ : ∃ o, o = w3.heap.size := ⟨_, rfl⟩
  rw [← hl] at hL ⊢
  rw [← hd] at hD hR ⊢
  rw [← ho] at x3 hR
  have hS0 : PrAt w R o d l M [] W1 := ⟨bto hbA hbB, hL, hD, x2.below hbB, x3.below hbB, fun q hq => by cases hq⟩
  have n1 : l ≠ d ∧ l ≠ o ∧ l ≠ w.heap.size ∧ w.heap.size ≤ l := by omega
  have n2 : l ≠ o ∧ d ≠ o ∧ w.heap.size ≠ o ∧ w.heap.size ≤ o := by omega
  have n3 : w.heap.size ≤ d ∧ d ≠ w.heap.size := by omega
  (try rw [← ho])
  clear hW1 hbB hD hL x2 x3 hbA hsz hl hd ho hs3 hb3 C0
  have hY : ∀ ys y W, PrAt w R o d l M ys W → Bd M y → ys.length < qs.length → YieldAt Fence.wide (5 - 1 - 1) Tryz.prog l #[(Value.agg #[Value.string ⟨List.toArray (fN y)⟩, Value.string ⟨List.toArray (fD y)⟩])] W fun e W' => e = .returned (.bool true) ∧ PrAt w R o d l M (ys ++ [y]) W' := by
    intro ys y W hS hyb hlen
    have hy := run_yield (P := Tryz.prog) (args := #[(Value.agg #[Value.string ⟨List.toArray (fN y)⟩, Value.string ⟨List.toArray (fD y)⟩])]) hS.loop (by rw [hR]; rfl)
    refine ⟨R.fn, _, R.assign, R.body, hy, roundIn_of_wpIn trivial ?_⟩
    have hlW := (Array.getElem?_eq_some_iff.1 hS.loop).1
    have hSa := hS.mono (below_alloc W (.cells #[.string ⟨(fN (y)).toArray⟩, .string ⟨(fD (y)).toArray⟩] 25))
    have hbr := run_beginRound (P := Tryz.prog) hSa.loop (by rw [hR])
    have hS1 : PrAt w { R with state := .busy } o d l M ys ((W.alloc (.cells #[.string ⟨(fN (y)).toArray⟩, .string ⟨(fD (y)).toArray⟩] 25)).putObj l (.loop { R with state := .busy })) := PrAt.done rfl n1 hSa
    have x4 : Blk ((W.alloc (.cells #[.string ⟨(fN (y)).toArray⟩, .string ⟨(fD (y)).toArray⟩] 25)).putObj l (.loop { R with state := .busy })) W.heap.size #[.string ⟨(fN y).toArray⟩, .string ⟨(fD y).toArray⟩] := (Blk.new W _ 25).putO (by omega)
    obtain ⟨Wb, hWb⟩ : ∃ Wb, Wb = (W.alloc (.cells #[.string ⟨(fN (y)).toArray⟩, .string ⟨(fD (y)).toArray⟩] 25)).putObj l (.loop { R with state := .busy }) := ⟨_, rfl⟩
    rw [← hWb] at hbr hS1 x4
    have hRe : ({ { R with state := .busy } with state := .ready, pending := none } : Loop) = R := by rw [hR]
    obtain ⟨R1, hR1⟩ : ∃ R1, R1 = { R with state := .busy } := ⟨_, rfl⟩
    rw [← hR1] at hS1 hRe
    have hxb : Bd (1 + M * ys.length) (prodQ 1 ys) := prodQ_bd ys bd_one hS1.bd
    have hlen2 : M * ys.length ≤ M * qs.length := Nat.mul_le_mul_left M (by omega)
    have HS2 := Lib.hid hS1
    have HC := Lib.hid (rMul (isq_fr hxb (by omega)) (isq_fr hyb (by omega)) rfl)
    have HST : Hid (∀ W', PrAt w R1 o d l M ys W' → PrAt w R1 o d l M (ys ++ [y]) ((W'.setCell ⟨o, 0, none⟩ (.string ⟨(fN (prodQ 1 ys * y)).toArray⟩)).setCell ⟨o, 1, none⟩ (.string ⟨(fD (prodQ 1 ys * y)).toArray⟩))) := fun W' h => h.step hyb n2
    have HBr := Lib.hid hbr
    have HRe := Lib.hid hRe
    obtain ⟨x, hx⟩ : ∃ x, x = prodQ 1 ys := ⟨_, rfl⟩
    obtain ⟨z, hz⟩ : ∃ z, z = prodQ 1 ys * y := ⟨_, rfl⟩
    rw [← hz] at HC HST
    have q0 : Wb.cell? ⟨o, 0, none⟩ = some (.string ⟨(fN x).toArray⟩) := by rw [hx]; exact HS2.out.out.c 0
    have q1 : Wb.cell? ⟨o, 1, none⟩ = some (.string ⟨(fD x).toArray⟩) := by rw [hx]; exact HS2.out.out.c 1
    rw [← hx] at HC
    have p0 : Wb.cell? ⟨W.heap.size, 0, none⟩ = some (.string ⟨(fN y).toArray⟩) := x4.c 0
    have p1 : Wb.cell? ⟨W.heap.size, 1, none⟩ = some (.string ⟨(fD y).toArray⟩) := x4.c 1
    have hbW := HS2.out.below
    have HX := Lib.hid hx
    clear hWb hbr hy hS hSa hlW hS1 hRe hR1 hxb hlen hlen2 hyb x4 hx hz hS0
    rw [hR]
    gi_wp2
    refine ⟨_, HBr.out, ?_⟩
    gi_wp2_with fail
    refine ⟨trivial, ?_⟩
    refine (CallsIn.inRound l (callsIn_wide.2 (HC.out.of hG hbW))).mono ?_
    rintro e w4 ⟨rfl, hb4⟩
    have HS4 := Lib.hid (HS2.out.mono hb4)
    have HGO := Lib.hid (HST.out _ HS4.out)
    have hF := HS4.out.out.box
    have g0 := hF.c0
    have g1 := hF.c1
    have g2 := hF.f0
    have g3 := hF.f1
    rw [← HX.out] at g0 g1
    clear q0 q1 p0 p1 HC hbW HS2 HS4 hb4 hF HBr HST HX
    gi_wp2
    exact ⟨_, _, run_endRound (P := Tryz.prog) none HGO.out.loop, rfl, PrAt.done (HRe.out.trans hR) n1 HGO.out⟩
  have key := HI.out (5 - 1) l (PrAt w R o d l M) (fun ys W h => h.below) (fun ys W W' h hb => h.mono hb) hY W1 hS0
  refine key.mono ?_
  rintro e W2 ⟨hv, hS2⟩
  refine ⟨hv, hS2.loop, ?_⟩
  have hS3 : PrAt w { R with state := .exhausted } o d l M qs (W2.putObj l (.loop { R with state := .exhausted })) := PrAt.done rfl n1 hS2
  obtain ⟨W3, hW3⟩ : ∃ W3, W3 = W2.putObj l (.loop { R with state := .exhausted }) := ⟨_, rfl⟩
  rw [← hW3] at hS3 ⊢
  have hF := hS3.out.box
  have hH := hS3.res.box
  have q0 := hF.c0
  have q1 := hF.c1
  have g0 := hH.c0
  have g1 := hH.c1
  have g2 := hH.f0
  have g3 := hH.f1
  have hD5 := hS3.dfr
  have hb5 := hS3.below
  have HBk := Lib.hid (hS3.res.set2 (.string ⟨(fN (prodQ 1 qs)).toArray⟩) (.string ⟨(fD (prodQ 1 qs)).toArray⟩))
  clear hW3 hS3 key hY hS2 hS0 hv hF hH HI
  obtain ⟨q, hq⟩ : ∃ q, q = prodQ 1 qs := ⟨_, rfl⟩
  have HQ := Lib.hid hq
  rw [← hq] at q0 q1 HBk
  clear hq
  gi_wp2
  have hD6 := setCell_loop (i := 1) (u := .string ⟨(fD q).toArray⟩) (setCell_loop (i := 0) (u := .string ⟨(fN q).toArray⟩) hD5 n3.2) n3.2
  have hP := HBk.out.putO (l := d) (ob := .deferred none) (by omega)
  have d0 := hP.c 0
  have d1 := hP.c 1
  refine ⟨by simp, .inl ⟨_, _, rfl, run_takeDeferred hD6, ?_⟩⟩
  refine ⟨(Value.agg #[Value.string ⟨List.toArray (fN q)⟩, Value.string ⟨List.toArray (fD q)⟩]), by simp [results, Tryz.results125, go_sem, d0, d1], ?_⟩
  exact ⟨by rw [HQ.out], below_put (below_set2 hb5 (Nat.le_refl _) _ _) n3.1⟩
theorem own_belowN {w w' : World} {B k sz : Nat} {ty : TypeId} {v : Value} {cs : List Value} (h : w.ownsRow B ty sz v k cs) (hb : Below w.heap.size w w') : w'.ownsRow B ty sz v k cs := by
  refine ⟨h.1, ?_⟩
  rcases h.2 with h2 | ⟨g, cap, cur, e, hB, hg, r⟩
  · exact .inl h2
  · exact .inr ⟨g, cap, cur, e, hB, (hb.block g (Array.getElem?_eq_some_iff.1 hg).1).trans hg, r⟩
/-- the state of AppendSeq behind the numbers ys -/
structure CoAt (w : World) (R : Loop) (d l : Nat) (ys : List Rat) (W : World) : Prop where
  below : Below w.heap.size w W
  loop : W.heap[l]? = some (.loop R)
  dfr : W.heap[d]? = some (.deferred (some []))
  row : ∃ v, Boxed W w.heap.size 85 v ∧ W.ownsRow w.heap.size 25 2 v ys.length (rowsF (frs ys))
section
variable {w W W' : World} {R : Loop} {d l : Nat} {ys : List Rat}
theorem CoAt.mono (h : CoAt w R d l ys W) (hb : Below W.heap.size W W') : CoAt w R d l ys W' :=
  ⟨bto h.below hb, (hb.block _ (Array.getElem?_eq_some_iff.1 h.loop).1).trans h.loop, (hb.block _ (Array.getElem?_eq_some_iff.1 h.dfr).1).trans h.dfr, by
    obtain ⟨v, h1, h2⟩ := h.row
    exact ⟨v, (hb.block _ h1.lt).trans h1, own_belowN h2 hb⟩⟩
theorem CoAt.done {R1 R2 : Loop} (hR : R2 = R) (hl : l ≠ d ∧ l ≠ w.heap.size ∧ w.heap.size ≤ l) (h : CoAt w R1 d l ys W) : CoAt w R d l ys (W.putObj l (.loop R2)) := by
  subst hR
  refine ⟨below_put h.below hl.2.2, World.putObj_heap_same (Array.getElem?_eq_some_iff.1 h.loop).1, (World.putObj_heap_other (by omega)).trans h.dfr, ?_⟩
  obtain ⟨v, h1, h2⟩ := h.row
  exact ⟨v, (World.putObj_heap_other (Ne.symm hl.2.1)).trans h1, ownsRow_putObj h2 _ h.loop rfl⟩
end
set_option maxHeartbeats 4000000 in
set_option maxRecDepth 100000 in
theorem appendSeq_any (gf : Nat) (lb : Array Value) (qs : List Rat) (M : Nat) (w : World) (hEn : ∀ args w, (callFunc gf args).run Tryz.prog w = .ok (.enter gf args) w) (hI : IterOk w gf lb qs M) (hM : qs.length ≤ 100000) :
    Calls Tryz.prog 221 #[.slice none 0 0, .func (.func gf) #[] lb] w fun e w' => ∃ v, e = .returned v ∧ w'.ownsRow w.heap.size 25 2 v qs.length (rowsF (frs qs)) ∧ Below w.heap.size w w' := by
  have HI := Lib.hid hI
  have HE := Lib.hid hEn
  obtain ⟨i0, hi, hz0, hz1, hz2⟩ := info_parts info_frac
  have hb0 := below_alloc w (.cells #[.slice none 0 0] 85)
  clear hI hEn
  refine (callsIn_wide (n := 5)).1 ?_
  refine callsIn_of_wp_marks Tryz.func221 rfl trivial ?_ rfl
  simp only [Tryz.ntmps221, List.size_toArray, List.length_cons, List.length_nil, Nat.reduceAdd, Nat.reduceSub, Array.replicate_succ, Array.replicate_zero, List.push_toArray, List.append_toArray, List.nil_append, List.cons_append]
  gi_wp2_with fail
  refine range_goes (gf := gf) (lb := lb) rfl HE.out ?_
  intro fn R hR
  obtain ⟨W0, hW0⟩ : ∃ W0, W0 = w.alloc (.cells #[.slice none 0 0] 85) := ⟨_, rfl⟩
  have hsz : W0.heap.size = w.heap.size + 1 := by rw [hW0]; simp only [World.size_alloc]
  have x2 : Boxed W0 w.heap.size 85 (.slice none 0 0) := by rw [hW0]; exact Boxed.new _ _ _
  rw [← hW0] at hR hb0 ⊢
  clear hW0
  obtain ⟨W1, hW1⟩ : ∃ W1, W1 = (W0.alloc (.deferred (some []))).alloc (.loop R) := ⟨_, rfl⟩
  have hbB : Below W0.heap.size W0 W1 := by rw [hW1]; exact bto (below_alloc _ _) (below_alloc _ _)
  have hD : W1.heap[W0.heap.size]? = some (.deferred (some [])) := by rw [hW1]; exact (Below.heap_alloc _ _ _ (by simp)).trans (World.alloc_heap_new _ _)
  have hL : W1.heap[W0.heap.size + 1]? = some (.loop R) := by
    rw [hW1]
    have := World.alloc_heap_new (W0.alloc (.deferred (some []))) (.loop R)
    rwa [World.size_alloc] at this
  rw [← hW1]
  obtain ⟨l, hl⟩ : ∃ l, l = W0.heap.size + 1 := ⟨_, rfl⟩
  obtain ⟨d, hd⟩ : ∃ d, d = W0.heap.size := ⟨_, rfl⟩
  rw [← hl] at hL ⊢
  rw [← hd] at hD hR ⊢
  have hS0 : CoAt w R d l [] W1 := ⟨bto hb0 hbB, hL, hD, ⟨_, (hbB.block _ x2.lt).trans x2, World.ownsRow_nil _ _ _ 2⟩⟩
  have n1 : l ≠ d ∧ l ≠ w.heap.size ∧ w.heap.size ≤ l := by omega
  have n3 : w.heap.size ≤ d ∧ d ≠ w.heap.size := by omega
  clear hW1 hbB hD hL x2 hb0 hsz hl hd
  have hY : ∀ ys y W, CoAt w R d l ys W → Bd M y → ys.length < qs.length → YieldAt Fence.wide (5 - 1 - 1) Tryz.prog l #[(Value.agg #[Value.string ⟨List.toArray (fN y)⟩, Value.string ⟨List.toArray (fD y)⟩])] W fun e W' => e = .returned (.bool true) ∧ CoAt w R d l (ys ++ [y]) W' := by
    intro ys y W hS hyb hlen
    have hy := run_yield (P := Tryz.prog) (args := #[(Value.agg #[Value.string ⟨List.toArray (fN y)⟩, Value.string ⟨List.toArray (fD y)⟩])]) hS.loop (by rw [hR]; rfl)
    refine ⟨R.fn, _, R.assign, R.body, hy, roundIn_of_wpIn trivial ?_⟩
    have hlW := (Array.getElem?_eq_some_iff.1 hS.loop).1
    have hSa := hS.mono (below_alloc W (.cells #[.string ⟨(fN (y)).toArray⟩, .string ⟨(fD (y)).toArray⟩] 25))
    have hbr := run_beginRound (P := Tryz.prog) hSa.loop (by rw [hR])
    have hS1 : CoAt w { R with state := .busy } d l ys ((W.alloc (.cells #[.string ⟨(fN (y)).toArray⟩, .string ⟨(fD (y)).toArray⟩] 25)).putObj l (.loop { R with state := .busy })) := CoAt.done rfl n1 hSa
    have x4 : Blk ((W.alloc (.cells #[.string ⟨(fN (y)).toArray⟩, .string ⟨(fD (y)).toArray⟩] 25)).putObj l (.loop { R with state := .busy })) W.heap.size #[.string ⟨(fN y).toArray⟩, .string ⟨(fD y).toArray⟩] := (Blk.new W _ 25).putO (by omega)
    obtain ⟨Wc, hWc⟩ : ∃ Wc, Wc = (W.alloc (.cells #[.string ⟨(fN (y)).toArray⟩, .string ⟨(fD (y)).toArray⟩] 25)).putObj l (.loop { R with state := .busy }) := ⟨_, rfl⟩
    rw [← hWc] at hbr hS1 x4
    have hRe : ({ { R with state := .busy } with state := .ready, pending := none } : Loop) = R := by rw [hR]
    obtain ⟨R1, hR1⟩ : ∃ R1, R1 = { R with state := .busy } := ⟨_, rfl⟩
    rw [← hR1] at hS1 hRe
    obtain ⟨v, hv, hrow⟩ := hS1.row
    have hbc := hS1.below
    have hc := hv.cell
    have p0 : Wc.cell? ⟨W.heap.size, 0, none⟩ = some (.string ⟨(fN y).toArray⟩) := x4.c 0
    have p1 : Wc.cell? ⟨W.heap.size, 1, none⟩ = some (.string ⟨(fD y).toArray⟩) := x4.c 1
    have HBr := Lib.hid hbr
    have HRe := Lib.hid hRe
    have HS2 := Lib.hid hS1
    clear hWc hbr hy hS hSa hlW hS1 hRe hR1 hyb hS0
    rw [hR]
    gi_wp2
    refine ⟨_, HBr.out, ?_⟩
    gi_wp2_with (gi_at_builtin; refine wpListIn_append_own _ rfl _ _ 85 rfl w.heap.size 25 i0 (.agg #[.string ⟨#[]⟩, .string ⟨#[]⟩]) 2 32 Tryz.underlying85 hi hz0 hz1 hz2 rfl (by decide) _ _ _ rfl (own_belowN hrow (below_alloc _ _)) ⟨Wc.heap.size, 0, none⟩ 1 1 [.string ⟨(fN y).toArray⟩, .string ⟨(fD y).toArray⟩] rfl rfl ?c1 ?c2 ?c3 ?c4 ?c5 ?_)
    case c1 =>
      intro j u hu
      match j with
      | 0 => simp at hu; subst hu; rw [Lib.add_plain]; simp [go_sem]
      | 1 => simp at hu; subst hu; rw [Lib.add_plain]; simp [go_sem]
      | j + 2 => simp at hu
    case c2 =>
      intro u hu
      simp at hu
      rcases hu with rfl | rfl <;> rfl
    case c3 => unfold maxLen; omega
    case c4 => omega
    case c5 => have := hbc.size; simp; omega
    intro v' w1 hown' hgrow _
    obtain ⟨g', cap', rfl⟩ := ownsRow_succ hown'
    obtain ⟨hv1, hv2, hr2, hk2, hb2⟩ := hv.appended (by decide) hrow hbc.size (Nat.le_refl _) hown' hgrow
    have hc1 := hv1.cell
    have hf1 := hv1.frozen
    have HGO : Hid (CoAt w R1 d l (ys ++ [y]) (w1.setCell ⟨w.heap.size, 0, none⟩ (.slice (some ⟨g', 0, none⟩) (ys.length + 1) cap'))) := by
      refine ⟨hbc.trans hb2, hk2.same _ _ HS2.out.loop rfl, hk2.same _ _ HS2.out.dfr rfl, _, hv2, ?_⟩
      have e1 : (ys ++ [y]).length = ys.length + 1 := by simp
      have e2 : rowsF (frs (ys ++ [y])) = rowsF (frs ys) ++ [.string ⟨(fN y).toArray⟩, .string ⟨(fD y).toArray⟩] := by
        unfold frs; rw [List.map_append, rowsF_app]; rfl
      rw [e1, e2]; exact hr2
    clear hown' hgrow hv1 hv2 hr2 hk2 hb2 hv hrow hc p0 p1 HS2 x4
    gi_wp2
    exact ⟨_, _, run_endRound (P := Tryz.prog) none HGO.out.loop, rfl, CoAt.done (HRe.out.trans hR) n1 HGO.out⟩
  have key := HI.out (5 - 1) l (CoAt w R d l) (fun ys W h => h.below) (fun ys W W' h hb => h.mono hb) hY W1 hS0
  refine key.mono ?_
  rintro e W2 ⟨hv, hS2⟩
  refine ⟨hv, hS2.loop, ?_⟩
  have hS3 : CoAt w { R with state := .exhausted } d l qs (W2.putObj l (.loop { R with state := .exhausted })) := CoAt.done rfl n1 hS2
  obtain ⟨W3, hW3⟩ : ∃ W3, W3 = W2.putObj l (.loop { R with state := .exhausted }) := ⟨_, rfl⟩
  rw [← hW3] at hS3 ⊢
  obtain ⟨v, hv, hrow⟩ := hS3.row
  have q0 := hv.cell
  have hD5 := hS3.dfr
  have hb5 := hS3.below
  have HR := Lib.hid (ownsRow_putObj hrow (.deferred none) hD5 rfl)
  clear hW3 hS3 key hY hS2 hS0 hrow HI
  gi_wp2
  refine ⟨by simp, .inl ⟨_, _, rfl, run_takeDeferred hD5, ?_⟩⟩
  refine ⟨_, results_tmp rfl _ _ _, v, rfl, HR.out, below_put hb5 n3.1⟩
set_option maxHeartbeats 1000000 in
set_option maxRecDepth 100000 in
theorem collect_any (gf : Nat) (lb : Array Value) (qs : List Rat) (M : Nat) (w : World) (hEn : ∀ args w, (callFunc gf args).run Tryz.prog w = .ok (.enter gf args) w) (hI : IterOk w gf lb qs M) (hM : qs.length ≤ 100000) :
    Calls Tryz.prog 173 #[.func (.func gf) #[] lb] w fun e w' => ∃ v, e = .returned v ∧ w'.ownsRow w.heap.size 25 2 v qs.length (rowsF (frs qs)) ∧ Below w.heap.size w w' := by
  have C1 := Lib.hid (appendSeq_any gf lb qs M w hEn hI hM)
  clear hEn hI
  go_enter Tryz.func173, Tryz.ntmps173
  go_wp2_with fail
  refine C1.out.mono ?_
  rintro e w2 ⟨v, rfl, h1, h2⟩
  go_wp2
  go_ret
  exact ⟨_, rfl, h1, h2⟩
end Go.Proofs.YtgnppdkeiihlfaaGreatDoor
namespace Go.Proofs.YtgnppdkeiihlfaaGreatDoor
open Go.RowKit Num
section
variable {P : Program} {ops : Array Oper} {C : World → Prop} {Q : St → Bx → Prop} {rest : List Oper} {o : Oper} {i : Nat} {a : St} {B : Bx}
theorem turned3 (w : World) (b : Nat) (u v s x y z : Value) (t : TypeId) (h : w.heap[b]? = some (.cells #[u, v, s] t (0, 0))) : Turned w (((w.setCell ⟨b, 0, none⟩ x).setCell ⟨b, 1, none⟩ y).setCell ⟨b, 2, none⟩ z) b (.cells #[x, y, z] t (0, 0)) := by
  refine ⟨rfl, rfl, rfl, by simp [World.setCell], by simp [World.setCell, Array.getElem?_modify, h], fun k hk => ?_⟩
  rw [Below.heap_setCell _ _ _ _ hk, Below.heap_setCell _ _ _ _ hk, Below.heap_setCell _ _ _ _ hk]
/-- a store of three cells into a block that the region has made -/
theorem kept_put3 (k : Nat) (ok : Oper) (d : Tmp) (u v s x y z : Value) (t : TypeId) (hp : B k = some (false, .cells #[u, v, s] t (0, 0))) (hk : ops[k]? = some ok) (hd : ok.dst = some d) (hl : d ∈ o.looksAt ops)
    (hw : ∀ ρ, Region.wanted o (yielded ops (a ρ).tmps) = true)
    (h : ∀ ρ w, C w → w.cell? ⟨ρ k, 0, none⟩ = some u → w.cell? ⟨ρ k, 1, none⟩ = some v → w.cell? ⟨ρ k, 2, none⟩ = some s → w.frozen? ⟨ρ k, 0, none⟩ = false → w.frozen? ⟨ρ k, 1, none⟩ = false → w.frozen? ⟨ρ k, 2, none⟩ = false →
      (execOp (a ρ).eval o).run P w = .ok .skip (((w.setCell ⟨ρ k, 0, none⟩ x).setCell ⟨ρ k, 1, none⟩ y).setCell ⟨ρ k, 2, none⟩ z))
    (hn : wpKept P ops C Q rest (i + 1) (fun ρ => (a ρ).put o.dst undef) (fun l => if l = k then some (true, .cells #[x, y, z] t (0, 0)) else B l)) : wpKept P ops C Q (o :: rest) i a B :=
  ⟨.put k (.cells #[u, v, s] t (0, 0)) (.cells #[x, y, z] t (0, 0)), hp, ⟨.inr ⟨ok, d, hk, hd, hl⟩, fun ρ => ⟨hw ρ, fun w hc hb =>
    ⟨_, h ρ w hc (by rw [cell_of_row w (ρ k) 0 _ t (0, 0) hb]; rfl) (by rw [cell_of_row w (ρ k) 1 _ t (0, 0) hb]; rfl) (by rw [cell_of_row w (ρ k) 2 _ t (0, 0) hb]; rfl) (by simp [World.frozen?, hb]) (by simp [World.frozen?, hb]) (by simp [World.frozen?, hb]), turned3 w (ρ k) u v s x y z t hb⟩⟩⟩, hn⟩
end
section
variable {l l' : List UInt8}
theorem niSub46 (hl : l.length ≤ 100000000) (hl' : l'.length ≤ 100000000) {z : Int} (e : val l - val l' = z) : Ret 167 #[.string ⟨l.toArray⟩, .string ⟨l'.toArray⟩] (.string ⟨(canon z).toArray⟩) := fun w hG => by
  subst e; exact isub_any l l' w hl hl' hG
theorem niMul46 (hl : l.length ≤ 100000000) (hl' : l'.length ≤ 100000000) {z : Int} (e : val l * val l' = z) : Ret 163 #[.string ⟨l.toArray⟩, .string ⟨l'.toArray⟩] (.string ⟨(canon z).toArray⟩) := fun w hG => by
  subst e; exact mul_any l l' w hl hl' hG
theorem niDiv46 (hl : l.length ≤ 100000000) (hl' : l'.length ≤ 100000000) (h0 : val l' ≠ 0) {q r : Int} (e : divZ (val l) (val l') = q) (e' : modZ (val l) (val l') = r) : Ret 201 #[.string ⟨l.toArray⟩, .string ⟨l'.toArray⟩] (.tuple #[.string ⟨(canon q).toArray⟩, .string ⟨(canon r).toArray⟩, .int .i64 0]) := fun w hG => by
  subst e; subst e'; exact idiv_any l l' w hl hl' hG h0
theorem niPower46 (hl : l.length ≤ 100000) {n : Nat} (hn : n ≤ 400) {z : Int} (e : val l ^ n = z) : Ret 176 #[.string ⟨l.toArray⟩, .int .i64 (n : Int)] (.tuple #[.string ⟨(canon z).toArray⟩, .int .i64 0]) := fun w hG => by
  subst e; exact ipower_any l n w hl hn hG
end
/-- points within the statements' sizes, in memory -/
structure QL (w : World) (A : Option Addr) (ts : List Pnt) (n : Nat) : Prop where
  len : ts.length = n
  sm : n ≤ 1000
  gap : n ≤ 12 ∨ 400 < n
  str : ∀ t ∈ ts, t.vl.length ≤ 60 ∧ t.fl.length ≤ 60
  mem : PntAt w A ts
section
variable {w w' : World} {A : Option Addr} {ts : List Pnt} {n : Nat}
theorem QL.below (h : QL w A ts n) (hb : Below w.heap.size w w') : QL w' A ts n := ⟨h.len, h.sm, h.gap, h.str, h.mem.below hb⟩
theorem QL.ok (h : QL w A ts n) (h0 : pntE ts = 0) : 1 ≤ n ∧ n ≤ 12 ∧ PosL (pts ts) ∧ UpD none ts ∧ ∀ t ∈ ts, PntOk t := by
  obtain ⟨h1, h2, h3, h4, h5⟩ := pntE_ok h0
  have := h.len
  have := h.gap
  exact ⟨by omega, by omega, h3, h4, h5⟩
theorem twCheckB (hG : Glob w) (h : QL w A ts n) (c : Nat) : RetB w 124 #[.slice A n c] (.int .i64 (pntE ts)) := fun w' hb => twCheck A ts n c w' (hG.below hb) h.len h.sm h.str (h.mem.below hb)
theorem rwCheckB (hG : Glob w) (h : QL w A ts n) (c : Nat) : RetB w 58 #[.slice A n c] (.int .i64 (pntE ts)) := fun w' hb => rwCheck A ts n c w' (hG.below hb) h.len h.sm h.str (h.mem.below hb)
end
theorem enter_f1 (args : Array Value) (w : World) : (callFunc 190 args).run Tryz.prog w = .ok (.enter 190 args) w := by kernel_rfl
theorem facs_bd1 {ts : List Pnt} (h : ∀ t ∈ ts, PntOk t) (hp : PosL (pts ts)) (hn : ts.length ≤ 12) : Bd 505 (prodQ 1 (facs (pts ts))) := by
  have h1 := prodQ_bd (M := 42) (facs (pts ts)) bd_one (facs_bd hp h)
  rw [facs_len, pts_len] at h1
  exact bd_mono h1 (by omega)
theorem own_baseN {w : World} {B B' k sz : Nat} {ty : TypeId} {v : Value} {cs : List Value} (h : w.ownsRow B ty sz v k cs) (hb : B' ≤ B) : w.ownsRow B' ty sz v k cs := by
  refine ⟨h.1, ?_⟩
  rcases h.2 with h2 | ⟨g, cap, cur, e, hB, r⟩
  · exact .inl h2
  · exact .inr ⟨g, cap, cur, e, Nat.le_trans hb hB, r⟩
/-- what Return returns -/
def retV (ts : List Pnt) : Value := if ¬ pntE ts = 0 then .tuple #[.agg #[.string ⟨#[]⟩, .string ⟨#[]⟩], .int .i64 1] else .tuple #[(Value.agg #[Value.string ⟨List.toArray (fN (prodQ 1 (facs (pts ts)) - 1))⟩, Value.string ⟨List.toArray (fD (prodQ 1 (facs (pts ts)) - 1))⟩]), .int .i64 0]
set_option maxHeartbeats 2000000 in
set_option maxRecDepth 100000 in
theorem twReturn {w : World} {A : Option Addr} {ts : List Pnt} {n : Nat} (hG : Glob w) (h : QL w A ts n) (c : Nat) : RetB w 59 #[.slice A n c] (retV ts) := fun w' hbw => by
  replace hG := hG.below hbw
  replace h := h.below hbw
  clear hbw
  have C1 := Lib.hid (twCheckB hG h c)
  have x2 := FBox.new w' (.string ⟨#[]⟩) (.string ⟨#[]⟩) 25
  have hb := below_alloc w' (.cells #[.string ⟨#[]⟩, .string ⟨#[]⟩] 25)
  by_cases g : pntE ts = 0
  rotate_left
  · have HV : Hid (retV ts = .tuple #[.agg #[.string ⟨#[]⟩, .string ⟨#[]⟩], .int .i64 1]) := if_pos g
    have e1 : (pntE ts != 0) = true := bneq' (intbne g)
    generalize pntE ts = E at *
    clear g h
    go_enter Tryz.func59, Tryz.ntmps59
    go_wp2_with fail
    ((with_reducible refine (C1.out.of hG hb).mono ?_); rintro e w1 ⟨rfl, hb1⟩)
    replace x2 := x2.below hb1
    replace hb := bto hb hb1
    have g0 := x2.c0
    have g1 := x2.c1
    have g2 := x2.f0
    have g3 := x2.f1
    clear hb1
    go_wp2
    have hy := x2.set (.string ⟨#[]⟩) (.string ⟨#[]⟩)
    have d0 := hy.c0
    have d1 := hy.c1
    refine bodyPost_ret (v := .tuple #[.agg #[.string ⟨#[]⟩, .string ⟨#[]⟩], .int .i64 1]) (by simp [results, Tryz.results59, go_sem, d0, d1]) rfl ?_
    exact ⟨by rw [HV.out], below_set2 hb (Nat.le_refl _) _ _⟩
  have HV0 : Hid (retV ts = .tuple #[(Value.agg #[Value.string ⟨List.toArray (fN (prodQ 1 (facs (pts ts)) - 1))⟩, Value.string ⟨List.toArray (fD (prodQ 1 (facs (pts ts)) - 1))⟩]), .int .i64 0]) := if_neg (fun h => h g)
  obtain ⟨h1, h12, hp, -, hok⟩ := h.ok g
  rw [g] at C1
  have HB := Lib.hid (facs_bd1 hok hp (by rw [h.len]; exact h12))
  have hfl : (facs (pts ts)).length ≤ 12 := by rw [facs_len, pts_len, h.len]; omega
  have CI : Hid (∀ w1, Below w'.heap.size w' w1 → IterOk (w1.alloc (.cells #[.slice A n c] 72)) 190 #[.pointer (some ⟨w1.heap.size, 0, none⟩)] (facs (pts ts)) 42) := fun w1 hb1 =>
    facs1_in w1.heap.size A ts n c _ (hG.below (bto hb1 (below_alloc _ _))) h.len h1 (by omega) hok hp (h.mem.below (bto hb1 (below_alloc _ _))) (Blk.new _ _ _)
  obtain ⟨qs, hqs⟩ : ∃ qs, qs = facs (pts ts) := ⟨_, rfl⟩
  rw [← hqs] at HV0 HB CI hfl
  have c0 : Ret 40 #[.string ⟨[49].toArray⟩] (Value.agg #[Value.string ⟨List.toArray (fN ((1 : Rat)))⟩, Value.string ⟨List.toArray (fD ((1 : Rat)))⟩]) := by have h := rOf (l := [49]) (by decide) (z := 1) (by decide); exact h
  have C3 := Lib.hid c0
  have C4 := Lib.hid (rSub (isq_fr HB.out (by decide)) (isq_fr bd_one (by decide)) rfl)
  obtain ⟨y, hy⟩ : ∃ y, y = prodQ 1 qs - 1 := ⟨_, rfl⟩
  have HV := HV0
  rw [← hy] at C4 HV
  clear g h h12 hok hp hqs c0 HV0 hy
  go_enter Tryz.func59, Tryz.ntmps59
  go_wp2_with fail
  ((with_reducible refine (C1.out.of hG hb).mono ?_); rintro e w1 ⟨rfl, hb1⟩)
  replace x2 := x2.below hb1
  replace hb := bto hb hb1
  clear hb1
  go_wp2_with fail
  refine (facs_any A n c _).mono ?_
  rintro e w2 ⟨rfl, rfl⟩
  have C2 := Lib.hid (twProduct 190 #[.pointer (some ⟨w1.heap.size, 0, none⟩)] qs 42 (w1.alloc (.cells #[.slice A n c] 72)) (hG.below (bto hb (below_alloc _ _))) enter_f1 (CI.out w1 hb) (by omega))
  replace x2 := x2.below (below_alloc _ (.cells #[.slice A n c] 72))
  replace hb := bto hb (below_alloc _ (.cells #[.slice A n c] 72))
  go_wp2_with fail
  refine C2.out.mono ?_
  rintro e w3 ⟨rfl, hb3⟩
  replace x2 := x2.below hb3
  replace hb := bto hb hb3
  clear hb3 C2 CI
  go_wp2_with fail
  ((with_reducible refine (C3.out.of hG hb).mono ?_); rintro e w4 ⟨rfl, hb4⟩)
  replace x2 := x2.below hb4
  replace hb := bto hb hb4
  clear hb4
  go_wp2_with fail
  ((with_reducible refine (C4.out.of hG hb).mono ?_); rintro e w5 ⟨rfl, hb5⟩)
  replace x2 := x2.below hb5
  replace hb := bto hb hb5
  have g0 := x2.c0
  have g1 := x2.c1
  have g2 := x2.f0
  have g3 := x2.f1
  clear hb5
  go_wp2
  have hy := x2.set (.string ⟨(fN (y)).toArray⟩) (.string ⟨(fD (y)).toArray⟩)
  have d0 := hy.c0
  have d1 := hy.c1
  refine bodyPost_ret (v := .tuple #[(Value.agg #[Value.string ⟨List.toArray (fN y)⟩, Value.string ⟨List.toArray (fD y)⟩]), .int .i64 0]) (by simp [results, Tryz.results59, go_sem, d0, d1]) rfl ?_
  exact ⟨by rw [HV.out], below_set2 hb (Nat.le_refl _) _ _⟩
set_option maxHeartbeats 2000000 in
set_option maxRecDepth 100000 in
theorem twFactors {w : World} {A : Option Addr} {ts : List Pnt} {n : Nat} (hG : Glob w) (h : QL w A ts n) (c : Nat) :
    Calls Tryz.prog 114 #[.slice A n c] w fun e w' => ∃ v qs, e = .returned (.tuple #[v, .int .i64 (if pntE ts = 0 then 0 else 1)]) ∧ qs = (if pntE ts = 0 then facs (pts ts) else []) ∧ w'.ownsRow w.heap.size 25 2 v qs.length (rowsF (frs qs)) ∧ Below w.heap.size w w' := by
  have C1 := Lib.hid (twCheckB hG h c)
  have hb := Below.refl w.heap.size w
  by_cases g : pntE ts = 0
  rotate_left
  · have e1 : (pntE ts != 0) = true := bneq' (intbne g)
    rw [if_neg g, if_neg g]
    generalize pntE ts = E at *
    clear g h
    go_enter Tryz.func114, Tryz.ntmps114
    go_wp2_with fail
    ((with_reducible refine (C1.out.of hG hb).mono ?_); rintro e w1 ⟨rfl, hb1⟩)
    replace hb := bto hb hb1
    go_wp2
    refine bodyPost_ret (v := .tuple #[.slice none 0 0, .int .i64 1]) (by simp [results, Tryz.results114, go_sem]) rfl ?_
    exact ⟨_, _, rfl, rfl, World.ownsRow_nil _ _ _ 2, hb⟩
  obtain ⟨h1, h12, hp, -, hok⟩ := h.ok g
  rw [if_pos g, if_pos g]
  rw [g] at C1
  have hfl : (facs (pts ts)).length ≤ 12 := by rw [facs_len, pts_len, h.len]; omega
  have CI : Hid (∀ w1, Below w.heap.size w w1 → IterOk (w1.alloc (.cells #[.slice A n c] 72)) 190 #[.pointer (some ⟨w1.heap.size, 0, none⟩)] (facs (pts ts)) 42) := fun w1 hb1 =>
    facs1_in w1.heap.size A ts n c _ (hG.below (bto hb1 (below_alloc _ _))) h.len h1 (by omega) hok hp (h.mem.below (bto hb1 (below_alloc _ _))) (Blk.new _ _ _)
  generalize facs (pts ts) = qs at *
  clear g h h12 hok hp
  go_enter Tryz.func114, Tryz.ntmps114
  go_wp2_with fail
  ((with_reducible refine (C1.out.of hG hb).mono ?_); rintro e w1 ⟨rfl, hb1⟩)
  replace hb := bto hb hb1
  clear hb1
  go_wp2_with fail
  refine (facs_any A n c _).mono ?_
  rintro e w2 ⟨rfl, rfl⟩
  have C2 := Lib.hid (collect_any 190 #[.pointer (some ⟨w1.heap.size, 0, none⟩)] qs 42 (w1.alloc (.cells #[.slice A n c] 72)) enter_f1 (CI.out w1 hb) (by omega))
  replace hb := bto hb (below_alloc _ (.cells #[.slice A n c] 72))
  have hsz := hb.size
  go_wp2_with fail
  refine C2.out.mono ?_
  rintro e w3 ⟨v, rfl, ho, hb3⟩
  replace hb := bto hb hb3
  have HO := Lib.hid (own_baseN ho hsz)
  clear hb3 C2 CI ho
  go_wp2
  refine bodyPost_ret (v := .tuple #[v, .int .i64 0]) (by simp [results, Tryz.results114, go_sem]) rfl ?_
  exact ⟨_, _, rfl, rfl, HO.out, hb⟩
/-- what Dietz returns -/
def dtzV (ts : List Pnt) : Value := if ¬ pntE ts = 0 then .tuple #[.agg #[.string ⟨#[]⟩, .string ⟨#[]⟩], .int .i64 1] else if ts.length = 1 then .tuple #[.agg #[.string ⟨#[]⟩, .string ⟨#[]⟩], .int .i64 11] else if capP (pts ts) = 0 then .tuple #[.agg #[.string ⟨#[]⟩, .string ⟨#[]⟩], .int .i64 10] else .tuple #[(Value.agg #[Value.string ⟨List.toArray (fN ((gainP (pts ts) : Rat) / capP (pts ts)))⟩, Value.string ⟨List.toArray (fD ((gainP (pts ts) : Rat) / capP (pts ts)))⟩]), .int .i64 0]
theorem day_canon {d : Int} (h : d.natAbs < 10 ^ 6) : (canon d).length ≤ 7 := canon_len_le _ 6 h
theorem Blk.setNe2 {w : World} {b c : Nat} {cs : Array Value} (h : Blk w b cs) (hn : b ≠ c) (x y : Value) : Blk ((w.setCell ⟨c, 0, none⟩ x).setCell ⟨c, 1, none⟩ y) b cs := (h.setO hn).setO hn
set_option maxHeartbeats 8000000 in
set_option maxRecDepth 100000 in
theorem twDietz {w : World} {A : Option Addr} {ts : List Pnt} {n : Nat} (hG : Glob w) (h : QL w A ts n) (c : Nat) (hnc : n ≤ c) : RetB w 115 #[.slice A n c] (dtzV ts) := fun w' hbw => by
  replace hG := hG.below hbw
  replace h := h.below hbw
  clear hbw
  have C1 := Lib.hid (twCheckB hG h c)
  have x2 := FBox.new w' (.string ⟨#[]⟩) (.string ⟨#[]⟩) 25
  have hb := below_alloc w' (.cells #[.string ⟨#[]⟩, .string ⟨#[]⟩] 25)
  by_cases g : pntE ts = 0
  rotate_left
  · have HV : Hid (dtzV ts = .tuple #[.agg #[.string ⟨#[]⟩, .string ⟨#[]⟩], .int .i64 1]) := if_pos g
    have e1 : (pntE ts != 0) = true := bneq' (intbne g)
    generalize pntE ts = E at *
    clear g h
    go_enter Tryz.func115, Tryz.ntmps115
    go_wp2_with fail
    ((with_reducible refine (C1.out.of hG hb).mono ?_); rintro e w1 ⟨rfl, hb1⟩)
    replace x2 := x2.below hb1
    replace hb := bto hb hb1
    clear hb1
    have g0 := x2.c0
    have g1 := x2.c1
    have g2 := x2.f0
    have g3 := x2.f1
    go_wp2
    have hy := x2.set (.string ⟨#[]⟩) (.string ⟨#[]⟩)
    have d0 := hy.c0
    have d1 := hy.c1
    refine bodyPost_ret (v := .tuple #[.agg #[.string ⟨#[]⟩, .string ⟨#[]⟩], .int .i64 1]) (by simp [results, Tryz.results115, go_sem, d0, d1]) rfl ?_
    exact ⟨by rw [HV.out], below_set2 hb (Nat.le_refl _) _ _⟩
  obtain ⟨h1, h12, hp, hup, hok⟩ := h.ok g
  rw [g] at C1
  by_cases gn : n = 1
  · have HV : Hid (dtzV ts = .tuple #[.agg #[.string ⟨#[]⟩, .string ⟨#[]⟩], .int .i64 11]) := by show _ = _; unfold dtzV; rw [if_neg (fun h => h g), if_pos (h.len.trans gn)]
    subst gn
    clear g h hp hup hok h1 h12
    go_enter Tryz.func115, Tryz.ntmps115
    go_wp2_with fail
    ((with_reducible refine (C1.out.of hG hb).mono ?_); rintro e w1 ⟨rfl, hb1⟩)
    replace x2 := x2.below hb1
    replace hb := bto hb hb1
    clear hb1
    have g0 := x2.c0
    have g1 := x2.c1
    have g2 := x2.f0
    have g3 := x2.f1
    go_wp2
    have hy := x2.set (.string ⟨#[]⟩) (.string ⟨#[]⟩)
    have d0 := hy.c0
    have d1 := hy.c1
    refine bodyPost_ret (v := .tuple #[.agg #[.string ⟨#[]⟩, .string ⟨#[]⟩], .int .i64 11]) (by simp [results, Tryz.results115, go_sem, d0, d1]) rfl ?_
    exact ⟨by rw [HV.out], below_set2 hb (Nat.le_refl _) _ _⟩
  have HV0 : Hid (dtzV ts = if capP (pts ts) = 0 then .tuple #[.agg #[.string ⟨#[]⟩, .string ⟨#[]⟩], .int .i64 10] else .tuple #[(Value.agg #[Value.string ⟨List.toArray (fN ((gainP (pts ts) : Rat) / capP (pts ts)))⟩, Value.string ⟨List.toArray (fD ((gainP (pts ts) : Rat) / capP (pts ts)))⟩]), .int .i64 0]) := by show _ = _; unfold dtzV; rw [if_neg (fun h => h g), if_neg (by rw [h.len]; exact gn)]
  obtain ⟨m, rfl⟩ : ∃ m, n = m + 1 := ⟨n - 1, by omega⟩
  have hm : 1 ≤ m := by omega
  obtain ⟨a, ha⟩ : ∃ a, ts[0]? = some a := ⟨_, List.getElem?_eq_getElem (by rw [h.len]; omega)⟩
  obtain ⟨z, hz⟩ : ∃ z, ts[m]? = some z := ⟨_, List.getElem?_eq_getElem (by rw [h.len]; omega)⟩
  obtain ⟨eg, ec⟩ := gainP_at h.len ha hz
  rw [eg, ec] at HV0
  have oa := hok a (List.mem_of_getElem? ha)
  have oz := hok z (List.mem_of_getElem? hz)
  have hdd := upD_days hup ha hz hm
  have hda := oa.day
  have hdz := oz.day
  have la := oa.lv
  have lz := oz.lv
  obtain ⟨b, o, rfl, hbs', p0, p1, p2⟩ := h.mem 0 a ha
  obtain ⟨b', o', hA', -, r0, r1, r2⟩ := h.mem m z hz
  obtain ⟨rfl, rfl⟩ : b = b' ∧ o = o' := by injection hA' with hA'; injection hA' with h1 h2; exact ⟨h1, h2⟩
  rw [Nat.zero_mul, Nat.add_zero] at p0 p1 p2
  have hg42 : (val z.vl - val a.vl).natAbs < 10 ^ 42 := by
    have a1 := val_lt_of la
    have a2 := val_lt_of lz
    have a4 : (10 : Nat) ^ 41 + 10 ^ 41 ≤ 10 ^ 42 := by decide
    omega
  have hd6 : (z.day - a.day).natAbs < 10 ^ 6 := by omega
  have hd0 : z.day - a.day ≠ 0 := by omega
  have hc42 : Bd 42 ((val a.vl : Int) : Rat) := bd_int (Nat.lt_of_lt_of_le (val_lt_of la) (by decide)) (by decide)
  have HGB : Hid (∀ k, k ≤ m → (gainK ts (val z.vl - val a.vl) k).natAbs < 10 ^ (42 + k)) := fun k hk => gainK_bd hok hg42 k (by rw [h.len]; omega)
  have HGL : Hid (∀ k, k ≤ m → (canon (gainK ts (val z.vl - val a.vl) k)).length ≤ 60) := fun k hk => Nat.le_trans (canon_len_le _ _ (HGB.out k hk)) (by omega)
  have HCB : Hid (∀ k, k ≤ m → Bd 700 (capK ts z.day (z.day - a.day) ((val a.vl : Int) : Rat) k)) := fun k hk => bd_mono (capK_bd hok hc42 (by omega) hd6 hd0 k (by rw [h.len]; omega)) (by omega)
  have HGS : Hid (∀ (k : Nat) (t : Pnt), ts[k]? = some t → gainK ts (val z.vl - val a.vl) (k + 1) = gainK ts (val z.vl - val a.vl) k - val t.fl) := fun k t ht => gainK_step ht _
  have HCS : Hid (∀ (k : Nat) (t : Pnt), ts[k]? = some t → capK ts z.day (z.day - a.day) ((val a.vl : Int) : Rat) (k + 1) = capK ts z.day (z.day - a.day) ((val a.vl : Int) : Rat) k + Rat.divInt (val t.fl * (z.day - t.day)) (z.day - a.day)) := fun k t ht => capK_step ht _ _ _
  have HPB : Hid (∀ (k : Nat) (t : Pnt), ts[k]? = some t → Bd 47 (Rat.divInt (val t.fl * (z.day - t.day)) (z.day - a.day)) ∧ (z.day - t.day).natAbs < 10 ^ 6 ∧ -25567 ≤ t.day ∧ t.day ≤ 84005 ∧ t.fl.length ≤ 41) := fun k t ht => by
    have ho := hok t (List.mem_of_getElem? ht)
    have := ho.day
    exact ⟨part_bd (val_lt_of ho.lf) (by omega) hd6 hd0, by omega, by omega, by omega, ho.lf⟩
  have HQ := Lib.hid h
  have HPBD : Hid (∀ t ∈ ts, -25567 ≤ t.day ∧ t.day ≤ 84005) := fun t ht => (hok t ht).day
  have C2 := Lib.hid (riOf (z.day - a.day) (by omega) (by omega))
  have hdl := day_canon hd6
  have C3 := Lib.hid (niSub46 (l := z.vl) (l' := a.vl) (by omega) (by omega) (show _ = gainK ts (val z.vl - val a.vl) 0 from rfl))
  have C4 := Lib.hid (rOf (l := a.vl) (by omega) rfl)
  have HGK : Hid (∀ (k : Nat) (t : Pnt), ts[k]? = some t → k < m → Ret 167 #[.string ⟨(canon (gainK ts (val z.vl - val a.vl) k)).toArray⟩, .string ⟨t.fl.toArray⟩] (.string ⟨(canon (gainK ts (val z.vl - val a.vl) (k + 1))).toArray⟩)) := fun k t ht hk => niSub46 (by have := HGL.out k (by omega); omega) (by have := (HPB.out k t ht).2.2.2.2; omega) (by rw [val_canon, HGS.out k t ht])
  have HMul : Hid (∀ (k : Nat) (t : Pnt), ts[k]? = some t → Ret 174 #[.int .i64 (z.day - t.day)] (.string ⟨(canon (z.day - t.day)).toArray⟩) ∧ Ret 163 #[.string ⟨t.fl.toArray⟩, .string ⟨(canon (z.day - t.day)).toArray⟩] (.string ⟨(canon (val t.fl * (z.day - t.day))).toArray⟩) ∧ Ret 175 #[.string ⟨(canon (val t.fl * (z.day - t.day))).toArray⟩, .string ⟨(canon (z.day - a.day)).toArray⟩] (Value.agg #[Value.string ⟨List.toArray (fN (Rat.divInt (val t.fl * (z.day - t.day)) (z.day - a.day)))⟩, Value.string ⟨List.toArray (fD (Rat.divInt (val t.fl * (z.day - t.day)) (z.day - a.day)))⟩])) := fun k t ht => by
    obtain ⟨-, k2, k3, k4, k5⟩ := HPB.out k t ht
    have k6 := day_canon k2
    refine ⟨riOf _ (by omega) (by omega), niMul46 (by omega) (by omega) (by rw [val_canon]), twRatio ?_ (by omega) (by rw [val_canon]; exact hd0) (by rw [val_canon, val_canon])⟩
    refine Nat.le_trans (canon_len_le _ 47 ?_) (by decide)
    rw [Int.natAbs_mul, show (10 : Nat) ^ 47 = 10 ^ 41 * 10 ^ 6 by decide]
    exact Nat.mul_lt_mul'' (val_lt_of k5) k2
  have HAdd : Hid (∀ (k : Nat) (t : Pnt), ts[k]? = some t → k < m → Ret 38 #[(Value.agg #[Value.string ⟨List.toArray (fN (capK ts z.day (z.day - a.day) ((val a.vl : Int) : Rat) k))⟩, Value.string ⟨List.toArray (fD (capK ts z.day (z.day - a.day) ((val a.vl : Int) : Rat) k))⟩]), (Value.agg #[Value.string ⟨List.toArray (fN (Rat.divInt (val t.fl * (z.day - t.day)) (z.day - a.day)))⟩, Value.string ⟨List.toArray (fD (Rat.divInt (val t.fl * (z.day - t.day)) (z.day - a.day)))⟩])] (Value.agg #[Value.string ⟨List.toArray (fN (capK ts z.day (z.day - a.day) ((val a.vl : Int) : Rat) (k + 1)))⟩, Value.string ⟨List.toArray (fD (capK ts z.day (z.day - a.day) ((val a.vl : Int) : Rat) (k + 1)))⟩])) := fun k t ht hk => rAdd (isq_fr (HCB.out k (by omega)) (by decide)) (isq_fr (HPB.out k t ht).1 (by decide)) (HCS.out k t ht).symm
  have C6 := Lib.hid (rOf (l := canon (gainK ts (val z.vl - val a.vl) m)) (by have := HGL.out m (Nat.le_refl _); omega) (val_canon _))
  have hgq : Bd 60 ((gainK ts (val z.vl - val a.vl) m : Int) : Rat) := bd_int (Nat.lt_of_lt_of_le (HGB.out m (Nat.le_refl _)) (Nat.pow_le_pow_right (by decide) (by omega))) (by decide)
  have C7a : Hid (capK ts z.day (z.day - a.day) ((val a.vl : Int) : Rat) m ≠ 0 → Ret 73 #[(Value.agg #[Value.string ⟨List.toArray (fN (((gainK ts (val z.vl - val a.vl) m : Int) : Rat)))⟩, Value.string ⟨List.toArray (fD (((gainK ts (val z.vl - val a.vl) m : Int) : Rat)))⟩]), (Value.agg #[Value.string ⟨List.toArray (fN (capK ts z.day (z.day - a.day) ((val a.vl : Int) : Rat) m))⟩, Value.string ⟨List.toArray (fD (capK ts z.day (z.day - a.day) ((val a.vl : Int) : Rat) m))⟩])] (.tuple #[(Value.agg #[Value.string ⟨List.toArray (fN (((gainK ts (val z.vl - val a.vl) m : Int) : Rat) / capK ts z.day (z.day - a.day) ((val a.vl : Int) : Rat) m))⟩, Value.string ⟨List.toArray (fD (((gainK ts (val z.vl - val a.vl) m : Int) : Rat) / capK ts z.day (z.day - a.day) ((val a.vl : Int) : Rat) m))⟩]), .int .i64 0])) := fun h0 => rQuo (isq_fr hgq (by decide)) (isq_fr (HCB.out m (Nat.le_refl _)) (by decide)) h0 rfl
  have C7b : Hid (capK ts z.day (z.day - a.day) ((val a.vl : Int) : Rat) m = 0 → Ret 73 #[(Value.agg #[Value.string ⟨List.toArray (fN (((gainK ts (val z.vl - val a.vl) m : Int) : Rat)))⟩, Value.string ⟨List.toArray (fD (((gainK ts (val z.vl - val a.vl) m : Int) : Rat)))⟩]), (Value.agg #[Value.string ⟨List.toArray (fN (capK ts z.day (z.day - a.day) ((val a.vl : Int) : Rat) m))⟩, Value.string ⟨List.toArray (fD (capK ts z.day (z.day - a.day) ((val a.vl : Int) : Rat) m))⟩])] (.tuple #[.agg #[.string ⟨#[]⟩, .string ⟨#[]⟩], .int .i64 10])) := fun h0 => rQuo0 (isq_fr (HCB.out m (Nat.le_refl _)) (by decide)) h0
  have HC0 : Hid (capK ts z.day (z.day - a.day) ((val a.vl : Int) : Rat) 0 = ((val a.vl : Int) : Rat)) := rfl
  have hwz : IntKind.i64.wrap (z.day - a.day) = z.day - a.day := Go.IntWalk.i64_in _ (by omega)
  have hbs : b < w'.heap.size := hbs'
  rw [← HC0.out] at C4
  generalize capK ts z.day (z.day - a.day) ((val a.vl : Int) : Rat) = ck at *
  generalize gainK ts (val z.vl - val a.vl) = gk at *
  have hmn : m < m + 1 := by omega
  have hwm : IntKind.i64.wrap (m : Int) = (m : Int) := Go.IntWalk.i64_in _ (by omega)
  have hlm : (m : Int) < (m : Int) + 1 := by omega
  have hlm2 : m < m + 1 := by omega
  have hmc : m ≤ c := by omega
  have hmc2 : (m : Int) ≤ (c : Int) := by omega
  have hm0 : 0 ≤ (m : Int) := by omega
  have hwm2 : IntKind.i64.wrap ((m : Int) + 1 - 1) = (m : Int) := by rw [Go.IntWalk.i64_in _ (by omega)]; omega
  have e2 : (((m + 1 : Nat) : Int) == 1) = false := intbne (by omega)
  have e3 : ((m : Int) + 1 == 1) = false := intbne (by omega)
  clear g h hp hup hok h1 gn ha hz eg ec oa oz hA' hbs' hg42 hc42 hd6 hd0 hgq HGB HGL HCB HGS HCS HPB HC0 la lz hdl hdd
  go_enter Tryz.func115, Tryz.ntmps115
  go_wp2_with fail
  ((with_reducible refine (C1.out.of hG hb).mono ?_); rintro e w1 ⟨rfl, hb1⟩)
  have hbs1 : b < w1.heap.size := Nat.lt_of_lt_of_le hbs (bto hb hb1).size
  replace p0 := ((bto hb hb1).cell (p := ⟨b, o, none⟩) hbs).trans p0
  replace p1 := ((bto hb hb1).cell (p := ⟨b, o + 1, none⟩) hbs).trans p1
  replace p2 := ((bto hb hb1).cell (p := ⟨b, o + 2, none⟩) hbs).trans p2
  replace r0 := ((bto hb hb1).cell (p := ⟨b, o + m * 3, none⟩) hbs).trans r0
  replace r1 := ((bto hb hb1).cell (p := ⟨b, o + m * 3 + 1, none⟩) hbs).trans r1
  replace r2 := ((bto hb hb1).cell (p := ⟨b, o + m * 3 + 2, none⟩) hbs).trans r2
  replace hbs := hbs1
  replace x2 := x2.below hb1
  replace hb := bto hb hb1
  clear hb1 hbs1 C1
  go_wp2_with fail
  refine wp_region_kept (by kernel_rfl) (by kernel_rfl) ?_
  refine kept_val _ (fun _ => rfl) (fun ρ wz hw => by go_simp; first | done | with_reducible rfl) ?_
  simp only [Act.put, List.setIfInBounds_toArray, List.set_cons_zero, List.set_cons_succ, Nat.reduceAdd]
  refine kept_val _ (fun _ => rfl) (fun ρ wz hw => by go_simp; first | done | with_reducible rfl) ?_
  simp only [Act.put, List.setIfInBounds_toArray, List.set_cons_zero, List.set_cons_succ, Nat.reduceAdd]
  refine kept_val _ (fun _ => rfl) (fun ρ wz hw => by have q0 := (hw.cell (p := ⟨b, o, none⟩) hbs).trans p0; have q1 := (hw.cell (p := ⟨b, o + 1, none⟩) hbs).trans p1; have q2 := (hw.cell (p := ⟨b, o + 2, none⟩) hbs).trans p2; go_simp; first | done | with_reducible rfl) ?_
  simp only [Act.put, List.setIfInBounds_toArray, List.set_cons_zero, List.set_cons_succ, Nat.reduceAdd]
  refine kept_val _ (fun _ => rfl) (fun ρ wz hw => by go_simp; first | done | with_reducible rfl) ?_
  simp only [Act.put, List.setIfInBounds_toArray, List.set_cons_zero, List.set_cons_succ, Nat.reduceAdd]
  refine kept_val _ (fun _ => rfl) (fun ρ wz hw => by go_simp; first | done | with_reducible rfl) ?_
  simp only [Act.put, List.setIfInBounds_toArray, List.set_cons_zero, List.set_cons_succ, Nat.reduceAdd]
  refine kept_val _ (fun _ => rfl) (fun ρ wz hw => by go_simp; first | done | with_reducible rfl) ?_
  simp only [Act.put, List.setIfInBounds_toArray, List.set_cons_zero, List.set_cons_succ, Nat.reduceAdd]
  refine kept_val _ (fun _ => rfl) (fun ρ wz hw => by go_simp; first | done | with_reducible rfl) ?_
  simp only [Act.put, List.setIfInBounds_toArray, List.set_cons_zero, List.set_cons_succ, Nat.reduceAdd]
  refine kept_val _ (fun _ => rfl) (fun ρ wz hw => by go_simp; first | done | with_reducible rfl) ?_
  simp only [Act.put, List.setIfInBounds_toArray, List.set_cons_zero, List.set_cons_succ, Nat.reduceAdd]
  refine kept_val _ (fun _ => rfl) (fun ρ wz hw => by have q0 := (hw.cell (p := ⟨b, o + m * 3, none⟩) hbs).trans r0; have q1 := (hw.cell (p := ⟨b, o + m * 3 + 1, none⟩) hbs).trans r1; have q2 := (hw.cell (p := ⟨b, o + m * 3 + 2, none⟩) hbs).trans r2; go_simp; first | done | with_reducible rfl) ?_
  simp only [Act.put, List.setIfInBounds_toArray, List.set_cons_zero, List.set_cons_succ, Nat.reduceAdd]
  refine kept_box (fun b => .pointer (some ⟨b, 0, none⟩)) _ rfl (fun _ => rfl) (fun ρ wz hw => by go_simp; first | done | with_reducible rfl) ?_
  simp only [Act.put, List.setIfInBounds_toArray, List.set_cons_zero, List.set_cons_succ, Nat.reduceAdd]
  refine kept_box (fun b => .pointer (some ⟨b, 0, none⟩)) _ rfl (fun _ => rfl) (fun ρ wz hw => by go_simp; first | done | with_reducible rfl) ?_
  simp only [Act.put, List.setIfInBounds_toArray, List.set_cons_zero, List.set_cons_succ, Nat.reduceAdd]
  refine kept_put3 9 _ 4 _ _ _ _ _ _ _ rfl rfl rfl (by decide) (fun _ => rfl) (fun ρ wz hw q0 q1 q2 q3 q4 q5 => by go_simp; first | done | with_reducible rfl) ?_
  simp only [Act.put, Nat.reduceAdd]
  refine kept_put3 10 _ 5 _ _ _ _ _ _ _ rfl rfl rfl (by decide) (fun _ => rfl) (fun ρ wz hw q0 q1 q2 q3 q4 q5 => by go_simp; first | done | with_reducible rfl) ?_
  simp only [Act.put, Nat.reduceAdd]
  refine kept_end (fun ρ w5 hF => ?_)
  have x4 : Blk w5 (ρ 9) #[.int .i64 a.day, .string ⟨a.vl.toArray⟩, .string ⟨a.fl.toArray⟩] := ⟨_, (hF.box 9 _ _ rfl).2⟩
  have x5 : Blk w5 (ρ 10) #[.int .i64 z.day, .string ⟨z.vl.toArray⟩, .string ⟨z.fl.toArray⟩] := ⟨_, (hF.box 10 _ _ rfl).2⟩
  have hb5 := hF.below
  have hg4 := (hF.box 9 _ _ rfl).1
  have hg5 := (hF.box 10 _ _ rfl).1
  have hs1 := hb.size
  (try dsimp only)
  generalize ρ 9 = b4 at *
  generalize ρ 10 = b5 at *
  replace x2 := x2.below hb5
  replace hb := bto hb hb5
  clear hF hb5 p0 p1 p2 r0 r1 r2 hbs
  have q40 := x4.c 0
  have q50 := x5.c 0
  go_wp2_with fail
  ((with_reducible refine (C2.out.of hG hb).mono ?_); rintro e w6 ⟨rfl, hb6⟩)
  replace x2 := x2.below hb6
  replace x4 := x4.below hb6
  replace x5 := x5.below hb6
  replace hb := bto hb hb6
  clear hb6 q40 q50 C2
  go_wp2_with fail
  refine wp_region_kept (by kernel_rfl) (by kernel_rfl) ?_
  refine kept_val _ (fun _ => rfl) (fun ρ wz hw => by go_simp; first | done | with_reducible rfl) ?_
  simp only [Act.put, List.setIfInBounds_toArray, List.set_cons_zero, List.set_cons_succ, Nat.reduceAdd]
  refine kept_val _ (fun _ => rfl) (fun ρ wz hw => by have q0 := (x5.below hw).c 1; go_simp; first | done | with_reducible rfl) ?_
  simp only [Act.put, List.setIfInBounds_toArray, List.set_cons_zero, List.set_cons_succ, Nat.reduceAdd]
  refine kept_val _ (fun _ => rfl) (fun ρ wz hw => by go_simp; first | done | with_reducible rfl) ?_
  simp only [Act.put, List.setIfInBounds_toArray, List.set_cons_zero, List.set_cons_succ, Nat.reduceAdd]
  refine kept_val _ (fun _ => rfl) (fun ρ wz hw => by have q0 := (x4.below hw).c 1; go_simp; first | done | with_reducible rfl) ?_
  simp only [Act.put, List.setIfInBounds_toArray, List.set_cons_zero, List.set_cons_succ, Nat.reduceAdd]
  refine kept_call _ _ _ (fun _ => rfl) (fun ρ wz hw => by go_simp; first | done | with_reducible rfl) (fun wz hw => C3.out.of hG (bto hb hw)) ?_
  simp only [Act.put, List.setIfInBounds_toArray, List.set_cons_zero, List.set_cons_succ, Nat.reduceAdd]
  refine kept_val _ (fun _ => rfl) (fun ρ wz hw => by go_simp; first | done | with_reducible rfl) ?_
  simp only [Act.put, List.setIfInBounds_toArray, List.set_cons_zero, List.set_cons_succ, Nat.reduceAdd]
  refine kept_val _ (fun _ => rfl) (fun ρ wz hw => by have q0 := (x4.below hw).c 1; go_simp; first | done | with_reducible rfl) ?_
  simp only [Act.put, List.setIfInBounds_toArray, List.set_cons_zero, List.set_cons_succ, Nat.reduceAdd]
  refine kept_call _ _ _ (fun _ => rfl) (fun ρ wz hw => by go_simp; first | done | with_reducible rfl) (fun wz hw => C4.out.of hG (bto hb hw)) ?_
  simp only [Act.put, List.setIfInBounds_toArray, List.set_cons_zero, List.set_cons_succ, Nat.reduceAdd]
  refine kept_box (fun b => .pointer (some ⟨b, 0, none⟩)) _ rfl (fun _ => rfl) (fun ρ wz hw => by go_simp; first | done | with_reducible rfl) ?_
  simp only [Act.put, List.setIfInBounds_toArray, List.set_cons_zero, List.set_cons_succ, Nat.reduceAdd]
  refine kept_val _ (fun _ => rfl) (fun ρ wz hw => by go_simp; first | done | with_reducible rfl) ?_
  simp only [Act.put, List.setIfInBounds_toArray, List.set_cons_zero, List.set_cons_succ, Nat.reduceAdd]
  refine kept_put2 8 _ 8 _ _ _ _ _ rfl rfl rfl (by decide) (fun _ => rfl) (fun ρ wz hw q0 q1 q2 q3 => by go_simp; first | done | with_reducible rfl) ?_
  simp only [Act.put, Nat.reduceAdd]
  refine kept_end (fun ρ w7 hF => ?_)
  have x8 := FBox.ofB (hF.box 8 _ _ rfl).2
  have hb7 := hF.below
  have hg8 := (hF.box 8 _ _ rfl).1
  have hl4 := x4.lt
  have hl5 := x5.lt
  have hl2 := x2.lt
  have hs6 := hb.size
  (try dsimp only)
  generalize ρ 8 = b8 at *
  have n2 : w'.heap.size ≠ b8 := by omega
  have n4 : b4 ≠ b8 := by omega
  have n5 : b5 ≠ b8 := by omega
  have n8 : w'.heap.size ≤ b8 := by omega
  replace x2 := x2.below hb7
  replace x4 := x4.below hb7
  replace x5 := x5.below hb7
  replace hb := bto hb hb7
  clear hF hb7 C3 C4 hg4 hg5 hg8 hl4 hl5 hl2 hs6 hs1
  go_wp2_with fail
  go_loopw [7, 50] (fun gv iv wr => ∃ k : Nat, k ≤ m ∧ iv = .int .i64 (k : Int) ∧ gv = .string ⟨(canon (gk k)).toArray⟩ ∧ FBox wr b8 (.string ⟨(fN (ck k)).toArray⟩) (.string ⟨(fD (ck k)).toArray⟩) ∧ FBox wr w'.heap.size (.string ⟨#[]⟩) (.string ⟨#[]⟩) ∧ Blk wr b4 #[.int .i64 a.day, .string ⟨a.vl.toArray⟩, .string ⟨a.fl.toArray⟩] ∧ Blk wr b5 #[.int .i64 z.day, .string ⟨z.vl.toArray⟩, .string ⟨z.fl.toArray⟩] ∧ Below w'.heap.size w' wr) (fun _ iv _ => m - (intOf iv).toNat)
  case atStart => exact ⟨0, Nat.zero_le _, rfl, rfl, x8, x2, x4, x5, hb⟩
  case round =>
    clear hb x2 x4 x5 x8
    obtain ⟨k, hk, rfl, rfl, x8, x2, x4, x5, hb⟩ := hrel
    by_cases hlk : k < m
    · obtain ⟨t, ht⟩ : ∃ t, ts[k]? = some t := ⟨_, List.getElem?_eq_getElem (by rw [HQ.out.len]; omega)⟩
      obtain ⟨b', o', hA', hbs, p0, p1, p2⟩ := (HQ.out.mem.below hb) k t ht
      obtain ⟨rfl, rfl⟩ : b = b' ∧ o = o' := by injection hA' with hA'; injection hA' with h1 h2; exact ⟨h1, h2⟩
      have D1 := Lib.hid (HGK.out k t ht hlk)
      have D2 := Lib.hid (HMul.out k t ht).1
      have D3 := Lib.hid (HMul.out k t ht).2.1
      have D4 := Lib.hid (HMul.out k t ht).2.2
      have D5 := Lib.hid (HAdd.out k t ht hlk)
      have hot := HPBD.out t (List.mem_of_getElem? ht)
      have hwt : IntKind.i64.wrap (z.day - t.day) = z.day - t.day := Go.IntWalk.i64_in _ (by omega)
      have x10 := Blk.new wr #[.int .i64 t.day, .string ⟨t.vl.toArray⟩, .string ⟨t.fl.toArray⟩] 74
      have hbA := below_alloc wr (.cells #[.int .i64 t.day, .string ⟨t.vl.toArray⟩, .string ⟨t.fl.toArray⟩] 74)
      have q10 := x10.c 2
      replace x2 := x2.below hbA
      replace x4 := x4.below hbA
      replace x5 := x5.below hbA
      replace x8 := x8.below hbA
      replace hb := bto hb hbA
      clear hbA hA' ht
      go_wp2_with fail
      ((with_reducible refine (D1.out.of hG hb).mono ?_); rintro e w11 ⟨rfl, hb11⟩)
      replace x2 := x2.below hb11
      replace x4 := x4.below hb11
      replace x5 := x5.below hb11
      replace x8 := x8.below hb11
      replace x10 := x10.below hb11
      replace hb := bto hb hb11
      clear hb11 q10 p0 p1 p2 D1
      generalize canon (val t.fl * (z.day - t.day)) = mu at *
      generalize Rat.divInt (val t.fl * (z.day - t.day)) (z.day - a.day) = pr at *
      generalize canon (z.day - t.day) = dt at *
      go_wp2_with fail
      refine wp_region_lastD (by simp) (by kernel_rfl) (by kernel_rfl) (by kernel_rfl) rfl rfl ?_
      simp only [List.dropLast_cons_cons, List.dropLast_singleton, List.getLast_cons_cons, List.getLast_singleton]
      refine kept_val _ (fun _ => rfl) (fun ρ wz hw => by have q0 := (x8.below hw).c0; have q1 := (x8.below hw).c1; go_simp; first | done | with_reducible rfl) ?_
      simp only [Act.put, List.setIfInBounds_toArray, List.set_cons_zero, List.set_cons_succ, Nat.reduceAdd]
      refine kept_val _ (fun _ => rfl) (fun ρ wz hw => by go_simp; first | done | with_reducible rfl) ?_
      simp only [Act.put, List.setIfInBounds_toArray, List.set_cons_zero, List.set_cons_succ, Nat.reduceAdd]
      refine kept_val _ (fun _ => rfl) (fun ρ wz hw => by have q0 := (x10.below hw).c 2; go_simp; first | done | with_reducible rfl) ?_
      simp only [Act.put, List.setIfInBounds_toArray, List.set_cons_zero, List.set_cons_succ, Nat.reduceAdd]
      refine kept_val _ (fun _ => rfl) (fun ρ wz hw => by go_simp; first | done | with_reducible rfl) ?_
      simp only [Act.put, List.setIfInBounds_toArray, List.set_cons_zero, List.set_cons_succ, Nat.reduceAdd]
      refine kept_val _ (fun _ => rfl) (fun ρ wz hw => by have q0 := (x5.below hw).c 0; go_simp; first | done | with_reducible rfl) ?_
      simp only [Act.put, List.setIfInBounds_toArray, List.set_cons_zero, List.set_cons_succ, Nat.reduceAdd]
      refine kept_val _ (fun _ => rfl) (fun ρ wz hw => by go_simp; first | done | with_reducible rfl) ?_
      simp only [Act.put, List.setIfInBounds_toArray, List.set_cons_zero, List.set_cons_succ, Nat.reduceAdd]
      refine kept_val _ (fun _ => rfl) (fun ρ wz hw => by have q0 := (x10.below hw).c 0; go_simp; first | done | with_reducible rfl) ?_
      simp only [Act.put, List.setIfInBounds_toArray, List.set_cons_zero, List.set_cons_succ, Nat.reduceAdd]
      refine kept_val _ (fun _ => rfl) (fun ρ wz hw => by go_simp; first | done | with_reducible rfl) ?_
      simp only [Act.put, List.setIfInBounds_toArray, List.set_cons_zero, List.set_cons_succ, Nat.reduceAdd]
      refine kept_call _ _ _ (fun _ => rfl) (fun ρ wz hw => by go_simp; first | done | with_reducible rfl) (fun wz hw => D2.out.of hG (bto hb hw)) ?_
      simp only [Act.put, List.setIfInBounds_toArray, List.set_cons_zero, List.set_cons_succ, Nat.reduceAdd]
      refine kept_call _ _ _ (fun _ => rfl) (fun ρ wz hw => by go_simp; first | done | with_reducible rfl) (fun wz hw => D3.out.of hG (bto hb hw)) ?_
      simp only [Act.put, List.setIfInBounds_toArray, List.set_cons_zero, List.set_cons_succ, Nat.reduceAdd]
      refine kept_val _ (fun _ => rfl) (fun ρ wz hw => by go_simp; first | done | with_reducible rfl) ?_
      simp only [Act.put, List.setIfInBounds_toArray, List.set_cons_zero, List.set_cons_succ, Nat.reduceAdd]
      refine kept_call _ _ _ (fun _ => rfl) (fun ρ wz hw => by go_simp; first | done | with_reducible rfl) (fun wz hw => D4.out.of hG (bto hb hw)) ?_
      simp only [Act.put, List.setIfInBounds_toArray, List.set_cons_zero, List.set_cons_succ, Nat.reduceAdd]
      refine kept_call _ _ _ (fun _ => rfl) (fun ρ wz hw => by go_simp; first | done | with_reducible rfl) (fun wz hw => D5.out.of hG (bto hb hw)) ?_
      simp only [Act.put, List.setIfInBounds_toArray, List.set_cons_zero, List.set_cons_succ, Nat.reduceAdd]
      refine last_put2 b8 _ _ (.string ⟨(fN (ck (k + 1))).toArray⟩) (.string ⟨(fD (ck (k + 1))).toArray⟩) x8 (fun ρ w'' q0 q1 q2 q3 => by go_simp; first | done | with_reducible rfl) (fun ρ w12 hF y8 => ?_)
      have hbF := hF.below
      replace x2 := (x2.below hbF).setNe n2 (.string ⟨(fN (ck (k + 1))).toArray⟩) (.string ⟨(fD (ck (k + 1))).toArray⟩)
      replace x4 := (x4.below hbF).setNe2 n4 (.string ⟨(fN (ck (k + 1))).toArray⟩) (.string ⟨(fD (ck (k + 1))).toArray⟩)
      replace x5 := (x5.below hbF).setNe2 n5 (.string ⟨(fN (ck (k + 1))).toArray⟩) (.string ⟨(fD (ck (k + 1))).toArray⟩)
      replace x8 := y8.set (.string ⟨(fN (ck (k + 1))).toArray⟩) (.string ⟨(fD (ck (k + 1))).toArray⟩)
      replace hb := below_set2 (b := b8) (bto hb hbF) n8 (.string ⟨(fN (ck (k + 1))).toArray⟩) (.string ⟨(fD (ck (k + 1))).toArray⟩)
      clear hF hbF y8 x10 D2 D3 D4 D5
      go_wp2
      go_roundw
      case rel => exact ⟨k + 1, by omega, by go_num, rfl, x8, x2, x4, x5, hb⟩
      case measure => simp [intOf]; omega
    obtain rfl : k = m := by omega
    by_cases g0 : ck k = 0
    · have C7 := Lib.hid (C7b.out g0)
      have HV : Hid (dtzV ts = .tuple #[.agg #[.string ⟨#[]⟩, .string ⟨#[]⟩], .int .i64 10]) := by show _ = _; rw [HV0.out, if_pos g0]
      clear g0 HV0 C7a C7b
      go_wp2_with fail
      refine wp_region_kept (by kernel_rfl) (by kernel_rfl) ?_
      refine kept_val _ (fun _ => rfl) (fun ρ wz hw => by go_simp; first | done | with_reducible rfl) ?_
      simp only [Act.put, List.setIfInBounds_toArray, List.set_cons_zero, List.set_cons_succ, Nat.reduceAdd]
      refine kept_call _ _ _ (fun _ => rfl) (fun ρ wz hw => by go_simp; first | done | with_reducible rfl) (fun wz hw => C6.out.of hG (bto hb hw)) ?_
      simp only [Act.put, List.setIfInBounds_toArray, List.set_cons_zero, List.set_cons_succ, Nat.reduceAdd]
      refine kept_val _ (fun _ => rfl) (fun ρ wz hw => by have q0 := (x8.below hw).c0; have q1 := (x8.below hw).c1; go_simp; first | done | with_reducible rfl) ?_
      simp only [Act.put, List.setIfInBounds_toArray, List.set_cons_zero, List.set_cons_succ, Nat.reduceAdd]
      refine kept_call _ _ _ (fun _ => rfl) (fun ρ wz hw => by go_simp; first | done | with_reducible rfl) (fun wz hw => C7.out.of hG (bto hb hw)) ?_
      simp only [Act.put, List.setIfInBounds_toArray, List.set_cons_zero, List.set_cons_succ, Nat.reduceAdd]
      refine kept_val _ (fun _ => rfl) (fun ρ wz hw => by go_simp; first | done | with_reducible rfl) ?_
      simp only [Act.put, List.setIfInBounds_toArray, List.set_cons_zero, List.set_cons_succ, Nat.reduceAdd]
      refine kept_val _ (fun _ => rfl) (fun ρ wz hw => by go_simp; first | done | with_reducible rfl) ?_
      simp only [Act.put, List.setIfInBounds_toArray, List.set_cons_zero, List.set_cons_succ, Nat.reduceAdd]
      refine kept_val _ (fun _ => rfl) (fun ρ wz hw => by go_simp; first | done | with_reducible rfl) ?_
      simp only [Act.put, List.setIfInBounds_toArray, List.set_cons_zero, List.set_cons_succ, Nat.reduceAdd]
      refine kept_box (fun b => .pointer (some ⟨b, 0, none⟩)) _ rfl (fun _ => rfl) (fun ρ wz hw => by go_simp; first | done | with_reducible rfl) ?_
      simp only [Act.put, List.setIfInBounds_toArray, List.set_cons_zero, List.set_cons_succ, Nat.reduceAdd]
      refine kept_put2 7 _ 11 _ _ _ _ _ rfl rfl rfl (by decide) (fun _ => rfl) (fun ρ wz hw q0 q1 q2 q3 => by go_simp; first | done | with_reducible rfl) ?_
      simp only [Act.put, Nat.reduceAdd]
      refine kept_val _ (fun _ => rfl) (fun ρ wz hw => by go_simp; first | done | with_reducible rfl) ?_
      simp only [Act.put, List.setIfInBounds_toArray, List.set_cons_zero, List.set_cons_succ, Nat.reduceAdd]
      refine kept_end (fun ρ w14 hF => ?_)
      have hb14 := hF.below
      (try dsimp only)
      generalize ρ 7 = b11 at *
      replace x2 := x2.below hb14
      replace hb := bto hb hb14
      clear hF hb14
      have g0 := x2.c0
      have g1 := x2.c1
      have g2 := x2.f0
      have g3 := x2.f1
      go_wp2
      have hy := x2.set (.string ⟨#[]⟩) (.string ⟨#[]⟩)
      have d0 := hy.c0
      have d1 := hy.c1
      refine bodyPost_ret (v := .tuple #[.agg #[.string ⟨#[]⟩, .string ⟨#[]⟩], .int .i64 10]) (by simp [results, Tryz.results115, go_sem, d0, d1]) rfl ?_
      exact ⟨by rw [HV.out], below_set2 hb (Nat.le_refl _) _ _⟩
    · have C7 := Lib.hid (C7a.out g0)
      have HV : Hid (dtzV ts = .tuple #[(Value.agg #[Value.string ⟨List.toArray (fN (((gk k : Int) : Rat) / ck k))⟩, Value.string ⟨List.toArray (fD (((gk k : Int) : Rat) / ck k))⟩]), .int .i64 0]) := by show _ = _; rw [HV0.out, if_neg g0]
      clear g0 HV0 C7a C7b
      generalize ((gk k : Int) : Rat) / ck k = fq at *
      go_wp2_with fail
      refine wp_region_kept (by kernel_rfl) (by kernel_rfl) ?_
      refine kept_val _ (fun _ => rfl) (fun ρ wz hw => by go_simp; first | done | with_reducible rfl) ?_
      simp only [Act.put, List.setIfInBounds_toArray, List.set_cons_zero, List.set_cons_succ, Nat.reduceAdd]
      refine kept_call _ _ _ (fun _ => rfl) (fun ρ wz hw => by go_simp; first | done | with_reducible rfl) (fun wz hw => C6.out.of hG (bto hb hw)) ?_
      simp only [Act.put, List.setIfInBounds_toArray, List.set_cons_zero, List.set_cons_succ, Nat.reduceAdd]
      refine kept_val _ (fun _ => rfl) (fun ρ wz hw => by have q0 := (x8.below hw).c0; have q1 := (x8.below hw).c1; go_simp; first | done | with_reducible rfl) ?_
      simp only [Act.put, List.setIfInBounds_toArray, List.set_cons_zero, List.set_cons_succ, Nat.reduceAdd]
      refine kept_call _ _ _ (fun _ => rfl) (fun ρ wz hw => by go_simp; first | done | with_reducible rfl) (fun wz hw => C7.out.of hG (bto hb hw)) ?_
      simp only [Act.put, List.setIfInBounds_toArray, List.set_cons_zero, List.set_cons_succ, Nat.reduceAdd]
      refine kept_val _ (fun _ => rfl) (fun ρ wz hw => by go_simp; first | done | with_reducible rfl) ?_
      simp only [Act.put, List.setIfInBounds_toArray, List.set_cons_zero, List.set_cons_succ, Nat.reduceAdd]
      refine kept_val _ (fun _ => rfl) (fun ρ wz hw => by go_simp; first | done | with_reducible rfl) ?_
      simp only [Act.put, List.setIfInBounds_toArray, List.set_cons_zero, List.set_cons_succ, Nat.reduceAdd]
      refine kept_val _ (fun _ => rfl) (fun ρ wz hw => by go_simp; first | done | with_reducible rfl) ?_
      simp only [Act.put, List.setIfInBounds_toArray, List.set_cons_zero, List.set_cons_succ, Nat.reduceAdd]
      refine kept_box (fun b => .pointer (some ⟨b, 0, none⟩)) _ rfl (fun _ => rfl) (fun ρ wz hw => by go_simp; first | done | with_reducible rfl) ?_
      simp only [Act.put, List.setIfInBounds_toArray, List.set_cons_zero, List.set_cons_succ, Nat.reduceAdd]
      refine kept_put2 7 _ 11 _ _ _ _ _ rfl rfl rfl (by decide) (fun _ => rfl) (fun ρ wz hw q0 q1 q2 q3 => by go_simp; first | done | with_reducible rfl) ?_
      simp only [Act.put, Nat.reduceAdd]
      refine kept_val _ (fun _ => rfl) (fun ρ wz hw => by go_simp; first | done | with_reducible rfl) ?_
      simp only [Act.put, List.setIfInBounds_toArray, List.set_cons_zero, List.set_cons_succ, Nat.reduceAdd]
      refine kept_end (fun ρ w14 hF => ?_)
      have x11 := FBox.ofB (hF.box 7 _ _ rfl).2
      have hb14 := hF.below
      (try dsimp only)
      generalize ρ 7 = b11 at *
      replace x2 := x2.below hb14
      replace hb := bto hb hb14
      have p0 := x11.c0
      have p1 := x11.c1
      have g0 := x2.c0
      have g1 := x2.c1
      have g2 := x2.f0
      have g3 := x2.f1
      clear hF hb14
      go_wp2
      have hy := x2.set (.string ⟨(fN (fq)).toArray⟩) (.string ⟨(fD (fq)).toArray⟩)
      have d0 := hy.c0
      have d1 := hy.c1
      refine bodyPost_ret (v := .tuple #[(Value.agg #[Value.string ⟨List.toArray (fN fq)⟩, Value.string ⟨List.toArray (fD fq)⟩]), .int .i64 0]) (by simp [results, Tryz.results115, go_sem, d0, d1]) rfl ?_
      exact ⟨by rw [HV.out], below_set2 hb (Nat.le_refl _) _ _⟩
end Go.Proofs.YtgnppdkeiihlfaaGreatDoor
namespace Go.Proofs.YtgnppdkeiihlfaaGreatDoor
open Num
/-- changes, the first sign, the last sign: one sum more -/
def sgStep (t : Int × Int × Int) (y : Int) : Int × Int × Int := (if t.2.1 = 0 then t.1 else if cmpZ y 0 = t.2.2 then t.1 else t.1 + 1, if t.2.1 = 0 then cmpZ y 0 else t.2.1, cmpZ y 0)
def sgFold (l : List Int) : Int × Int × Int := l.foldl sgStep (0, 0, 0)
theorem sgFold_snoc (l : List Int) (y : Int) : sgFold (l ++ [y]) = sgStep (sgFold l) y := by unfold sgFold; rw [List.foldl_append]; rfl
theorem cmpZ_ne {c : Int} (h : c ≠ 0) : cmpZ c 0 ≠ 0 := by rcases cmpZ_cases c with g | g | g <;> omega
theorem sgFold_go : ∀ (l : List Int) (c f a : Int), f ≠ 0 → l.foldl sgStep (c, f, a) = (c + (chL a l : Int), f, lastS a l)
  | [], c, f, a, _ => by simp [chL, lastS]
  | y :: r, c, f, a, h => by
    rw [List.foldl_cons]
    have e : sgStep (c, f, a) y = (c + (if cmpZ y 0 = a then (0 : Int) else 1), f, cmpZ y 0) := by
      unfold sgStep
      simp only [if_neg h]
      by_cases g : cmpZ y 0 = a
      · rw [if_pos g, if_pos g, Int.add_zero]
      · rw [if_neg g, if_neg g]
    rw [e, sgFold_go r _ f _ h]
    have e2 : chL a (y :: r) = (if cmpZ y 0 = a then 0 else 1) + chL (cmpZ y 0) r := rfl
    show _ = (c + ((chL a (y :: r) : Nat) : Int), f, lastS (cmpZ y 0) r)
    rw [e2]
    by_cases g : cmpZ y 0 = a
    · rw [if_pos g, if_pos g, Nat.zero_add, Int.add_zero]
    · rw [if_neg g, if_neg g, Int.natCast_add, Int.add_assoc]; rfl
theorem sgFold_eq (l : List Int) (h : ∀ c ∈ l, c ≠ 0) : sgFold l = ((chN l : Int), sg1 l, lastS 0 l) := by
  cases l with
  | nil => rfl
  | cons y r =>
    have hy := cmpZ_ne (h y (List.mem_cons_self ..))
    unfold sgFold
    rw [List.foldl_cons]
    have e : sgStep (0, 0, 0) y = (0, cmpZ y 0, cmpZ y 0) := by unfold sgStep; simp
    rw [e, sgFold_go r 0 _ _ hy, Int.zero_add]
    rfl
theorem sums_ne (l : List PZ) : ∀ c ∈ sumsL 0 l, c ≠ 0 := by rw [sums_nz]; exact nz_ne _
/-- the greatest number with a property is kept between two numbers -/
theorem chN_sig (c : Int) (r : List Int) : chN (c :: r) = chL (cmpZ c 0) r := rfl
/-- how often neighbours differ, in a list of signs -/
def nbN : List Int → Nat
  | a :: b :: r => (if b = a then 0 else 1) + nbN (b :: r)
  | _ => 0
theorem nb_ch : ∀ (l : List Int) (c : Int), nbN ((c :: l).map (fun x => cmpZ x 0)) = chL (cmpZ c 0) l
  | [], c => rfl
  | d :: r, c => by
    show (if cmpZ d 0 = cmpZ c 0 then 0 else 1) + nbN ((d :: r).map (fun x => cmpZ x 0)) = _
    rw [nb_ch r d]; rfl
theorem nb_chN (l : List Int) : nbN (l.map (fun x => cmpZ x 0)) = chN l := by
  cases l with
  | nil => rfl
  | cons c r => exact nb_ch r c
theorem lastS_get : ∀ (l : List Int) (a : Int) (h : l ≠ []), lastS a l = cmpZ (l.getLast h) 0
  | [c], a, h => rfl
  | c :: d :: r, a, h => by
    show lastS (cmpZ c 0) (d :: r) = _
    rw [lastS_get (d :: r) _ (by simp)]
    exact congrArg (fun x => cmpZ x 0) (List.getLast_cons (by simp)).symm
/-- the root's number, known by two places -/
theorem root_of {l : List PZ} {a u z : Int} (hl : UpL a l) (hc : chN (sumsL 0 l) = 1) (h0 : 0 < u) (hz : 0 ≤ z) (h1 : placeQ (sg1 (sumsL 0 l)) l (Rat.divInt z u) ≤ 0) (h2 : 0 < placeQ (sg1 (sumsL 0 l)) l (Rat.divInt (z + 1) u)) : Root l u z := by
  obtain ⟨y, hy⟩ := root_is l a u hl hc h0
  have e : y = z := by
    have k2 : ¬ z + 1 ≤ y := fun h => by have := (hy.iff (z + 1) (by omega)).2 h; omega
    by_cases g : z = 0
    · have := hy.nn; omega
    · have := (hy.iff z (by omega)).1 h1; omega
  exact e ▸ hy
/-- between two numbers, a middle one -/
theorem mid_lt {a b : Int} (h : a + 1 < b) : a < divZ (a + b) 2 ∧ divZ (a + b) 2 < b := by unfold divZ; rw [if_pos (by decide)]; omega
end Go.Proofs.YtgnppdkeiihlfaaGreatDoor
namespace Go.Proofs.YtgnppdkeiihlfaaGreatDoor
open Go.RowKit
section
variable {P : Program} {ops : Array Oper} {md : Region.Mode}
structure BelowX (X : Nat → Prop) (w w' : World) : Prop where
  os : w'.os = w.os
  tape : w'.tape = w.tape
  output : w'.output = w.output
  size : w.heap.size ≤ w'.heap.size
  block : ∀ k, k < w.heap.size → ¬ X k → w'.heap[k]? = w.heap[k]?
structure FitsX (X : Nat → Prop) (w0 : World) (ρ : Nat → Nat) (B : Bx) (w : World) : Prop where
  below : BelowX X w0 w
  box : ∀ i s ob, B i = some (s, ob) → (w0.heap.size ≤ ρ i ∨ X (ρ i)) ∧ w.heap[ρ i]? = some ob
  ne : ∀ i j, B i ≠ none → B j ≠ none → ρ i = ρ j → i = j
variable {X : Nat → Prop}
theorem BelowX.lower {w0 w w' : World} (h : BelowX X w w') (hb : Below w0.heap.size w0 w) (hX : ∀ k, X k → w0.heap.size ≤ k) : Below w0.heap.size w0 w' :=
  ⟨h.os.trans hb.os, h.tape.trans hb.tape, h.output.trans hb.output, Nat.le_trans hb.size h.size, fun k hk => (h.block k (Nat.lt_of_lt_of_le hk hb.size) (fun hx => by have := hX k hx; omega)).trans (hb.block k hk)⟩
theorem FitsX.go {w0 w w' : World} {ρ : Nat → Nat} {B : Bx} (h : FitsX X w0 ρ B w) (hb : Below w.heap.size w w') : FitsX X w0 ρ B w' := by
  refine ⟨⟨hb.os.trans h.below.os, hb.tape.trans h.below.tape, hb.output.trans h.below.output, Nat.le_trans h.below.size hb.size, fun k hk hx => (hb.block k (Nat.lt_of_lt_of_le hk h.below.size)).trans (h.below.block k hk hx)⟩, fun i s ob hi => ?_, h.ne⟩
  obtain ⟨h1, h2⟩ := h.box i s ob hi
  exact ⟨h1, (hb.block _ (Array.getElem?_eq_some_iff.1 h2).1).trans h2⟩
theorem FitsX.alloc {w0 w : World} {ρ : Nat → Nat} {B : Bx} (h : FitsX X w0 ρ B w) (i : Nat) (mk : Nat → Value) (ob : Obj) :
    FitsX X w0 (upd ρ i w.heap.size) ((Out.box mk ob).bx i B) (w.alloc ob) := by
  have hlt : ∀ k, B k ≠ none → ρ k < w.heap.size := fun k hk => by
    cases hB : B k with
    | none => exact absurd hB hk
    | some o => exact (Array.getElem?_eq_some_iff.1 (h.box k o.1 o.2 hB).2).1
  refine ⟨⟨h.below.os, h.below.tape, h.below.output, by rw [World.size_alloc]; have := h.below.size; omega, fun k hk hx => (Below.heap_alloc w ob k (by have := h.below.size; omega)).trans (h.below.block k hk hx)⟩, fun k s o hk => ?_, fun k l hk hl he => ?_⟩
  · simp only [Out.bx, upd] at *
    by_cases hki : k = i
    · rw [if_pos hki] at hk ⊢
      simp only [Option.some.injEq, Prod.mk.injEq] at hk
      obtain ⟨-, rfl⟩ := hk
      exact ⟨.inl h.below.size, by show (w.heap.push ob)[w.heap.size]? = _; simp⟩
    · rw [if_neg hki] at hk ⊢
      obtain ⟨h1, h2⟩ := h.box k s o hk
      exact ⟨h1, (Below.heap_alloc w ob _ (hlt k (by rw [hk]; simp))).trans h2⟩
  · simp only [Out.bx, upd] at *
    by_cases hki : k = i <;> by_cases hli : l = i
    · rw [hki, hli]
    · rw [if_pos hki, if_neg hli] at he
      rw [if_neg hli] at hl
      have := hlt l hl; omega
    · rw [if_neg hki, if_pos hli] at he
      rw [if_neg hki] at hk
      have := hlt k hk; omega
    · rw [if_neg hki, if_neg hli] at he
      rw [if_neg hki] at hk
      rw [if_neg hli] at hl
      exact h.ne k l hk hl he
theorem FitsX.turn {w0 w w' : World} {ρ : Nat → Nat} {B : Bx} (h : FitsX X w0 ρ B w) {i k : Nat} {ob0 ob : Obj} (hB : B k = some (false, ob0)) (ht : Turned w w' (ρ k) ob) :
    FitsX X w0 ρ ((Out.put k ob0 ob).bx i B) w' := by
  have hk := (h.box k _ _ hB).1
  refine ⟨⟨ht.os.trans h.below.os, ht.tape.trans h.below.tape, ht.output.trans h.below.output, by rw [ht.size]; exact h.below.size, fun b hb hx => (ht.old b (fun e => by subst e; rcases hk with hk | hk; · omega
                                                                                                                                                                          · exact hx hk)).trans (h.below.block b hb hx)⟩, fun l s o hl => ?_, fun l m hl hm he => ?_⟩
  · simp only [Out.bx] at hl
    by_cases hlk : l = k
    · rw [if_pos hlk] at hl
      simp only [Option.some.injEq, Prod.mk.injEq] at hl
      obtain ⟨-, rfl⟩ := hl
      rw [hlk]
      exact ⟨hk, ht.new⟩
    · rw [if_neg hlk] at hl
      obtain ⟨h1, h2⟩ := h.box l s o hl
      exact ⟨h1, (ht.old _ (fun e => hlk (h.ne l k (by rw [hl]; simp) (by rw [hB]; simp) e))).trans h2⟩
  · have hf : ∀ l, (Out.put k ob0 ob).bx i B l ≠ none → B l ≠ none := fun l hl => by
      simp only [Out.bx] at hl
      by_cases hlk : l = k
      · rw [hlk, hB]; simp
      · rwa [if_neg hlk] at hl
    exact h.ne l m (hf l hl) (hf m hm) he
theorem wpAny_of_keptX {w0 : World} {Q : St → Bx → Prop} {Q' : Exit → Act → World → Prop} (hQ : ∀ a B ρ w, FitsX X w0 ρ B w → Q a B → Q' .normal (a ρ) w) :
    ∀ (fuel : Nat) (listed : Array Bool) (a : St) (B : Bx) (ρ : Nat → Nat) (w : World), FitsX X w0 ρ B w → FreeOf listed a →
    wpAnyK P md ops (BelowX X w0) Q fuel listed a B → wpAny P md ops Q' fuel listed (a ρ) w
  | 0, _, _, _, _, _, hf, _, h => ⟨h.1, hQ _ _ _ _ hf h.2⟩
  | fuel + 1, listed, a, B, ρ, w, hf, hfr, h => by
    refine ⟨fun h0 => hQ _ _ _ _ hf (h.1 h0), fun i hi => ?_⟩
    have h1 := h.2 i hi
    obtain ⟨hun, o, ho, _⟩ := mem_ready.1 hi
    unfold kOp at h1
    simp only [ho] at h1
    obtain ⟨x, hp, hy, hK⟩ := h1
    have hfr' := hfr.put hun o.dst x
    unfold wpOp
    simp only [ho]
    cases x with
    | val v =>
      simp only [YieldsK] at hy
      rcases hy with hy | ⟨hw, rfl⟩
      · obtain ⟨hw, hr⟩ := hy ρ
        simp only [hw, if_true]
        refine .inl ?_
        have h3 := hr w hf.below
        unfold Oper.wp
        generalize (execOp (a ρ).eval o).run P w = r at *
        cases r with
        | ok n w' =>
          cases n <;> simp only [keptUpon] at h3 <;> simp only [Oper.upon]
          case value u =>
            obtain ⟨e1, e2⟩ := h3
            rw [e1, e2]
            exact wpAny_of_keptX hQ fuel _ _ B ρ w hf hfr' hK
          case skip =>
            obtain ⟨e1, e2⟩ := h3
            rw [e1, ← e2]
            exact wpAny_of_keptX hQ fuel _ _ B ρ w hf hfr' hK
          case enter f args =>
            obtain ⟨e1, hc⟩ := h3
            rw [e1]
            exact hc.mono fun e w'' ⟨he, hw''⟩ => by subst he; exact wpAny_of_keptX hQ fuel _ _ B ρ w'' (hf.go hw'') hfr' hK
        | halt x w' => simp only [keptUpon] at h3
      · simp only [hw ρ, Bool.false_eq_true, if_false]
        exact wpAny_of_keptX hQ fuel _ _ B ρ w hf hfr' hK
    | box mk ob =>
      simp only [YieldsK] at hy
      obtain ⟨hw, hr⟩ := hy ρ
      simp only [hw, if_true]
      refine .inl ?_
      unfold Oper.wp
      rw [hr w hf.below]
      simp only [Oper.upon]
      have h5 := wpAny_of_keptX hQ fuel _ _ _ (upd ρ i w.heap.size) (w.alloc ob) (hf.alloc i mk ob) hfr' hK
      have e1 : (a (upd ρ i w.heap.size)).put o.dst ((Out.box mk ob).at i (upd ρ i w.heap.size)) = (a ρ).put o.dst (mk w.heap.size) := by
        show (a (upd ρ i w.heap.size)).put o.dst (mk (upd ρ i w.heap.size i)) = _
        rw [hfr i ρ _ hun]
        have : upd ρ i w.heap.size i = w.heap.size := if_pos rfl
        rw [this]
      rwa [e1] at h5
    | put k ob0 ob =>
      obtain ⟨hw, hr⟩ := hy.2 ρ
      simp only [hw, if_true]
      refine .inl ?_
      obtain ⟨w', hr1, hr2⟩ := hr w hf.below (hf.box k _ _ hp).2
      unfold Oper.wp
      rw [hr1]
      simp only [Oper.upon]
      exact wpAny_of_keptX hQ fuel _ _ _ ρ w' (hf.turn (i := i) hp hr2) hfr' hK
theorem kept_endX {Q : Exit → Act → World → Prop} {C : World → Prop} {i : Nat} {a : St} {B : Bx} {w : World} (h : ∀ ρ w', FitsX X w ρ B w' → Q .normal (a ρ) w') : wpKept P ops C (fun a' B => ∀ ρ w', FitsX X w ρ B w' → Q .normal (a' ρ) w') [] i a B := h
/-- two blocks that lay ahead of the region, whose numbers stand in two slots, may be stored into -/
theorem wp_region_kept_two {id : Nat} {Q : Exit → Act → World → Prop} {a : Act} {w : World} {l : List Oper} (K b1 b2 : Nat) (s1 s2 : Tmp) (ob1 ob2 : Obj) (hm : P.follows .mixedOrders = true) (hB : Region.lexB .any l.toArray = true)
    (hK : l.length ≤ K) (hne : b1 ≠ b2) (h1 : w.heap[b1]? = some ob1) (h2 : w.heap[b2]? = some ob2)
    (ha : (a.put (some s1) (.pointer (some ⟨b1, 0, none⟩))).put (some s2) (.pointer (some ⟨b2, 0, none⟩)) = a)
    (h : wpKept P l.toArray (BelowX (fun k => k = b1 ∨ k = b2) w) (fun a' B => ∀ ρ w', FitsX (fun k => k = b1 ∨ k = b2) w ρ B w' → Q .normal (a' ρ) w') l 0 (fun ρ => (a.put (some s1) (.pointer (some ⟨ρ K, 0, none⟩))).put (some s2) (.pointer (some ⟨ρ (K + 1), 0, none⟩))) (fun k => if k = K then some (false, ob1) else if k = K + 1 then some (false, ob2) else none)) : (Code.region id l.toArray true).wp P Q a w := by
  simp only [Region.lexB, Bool.and_eq_true] at hB
  refine wp_region_any hm ?_
  have hf : FitsX (fun k => k = b1 ∨ k = b2) w (fun k => if k = K then b1 else b2) (fun k => if k = K then some (false, ob1) else if k = K + 1 then some (false, ob2) else none) { w with drawn := w.drawn + 1 } := by
    refine ⟨⟨rfl, rfl, rfl, Nat.le_refl _, fun _ _ _ => rfl⟩, ?_, ?_⟩
    · intro k s' o' hk
      by_cases hkK : k = K
      · rw [if_pos hkK] at hk
        simp only [Option.some.injEq, Prod.mk.injEq] at hk
        simp only [if_pos hkK]
        exact ⟨by simp, by rw [← hk.2]; exact h1⟩
      · rw [if_neg hkK] at hk
        by_cases hkL : k = K + 1
        · rw [if_pos hkL] at hk
          simp only [Option.some.injEq, Prod.mk.injEq] at hk
          simp only [if_neg hkK]
          exact ⟨by simp, by rw [← hk.2]; exact h2⟩
        · rw [if_neg hkL] at hk; cases hk
    · intro k j hk hj he
      have hc : ∀ k, (if k = K then some (false, ob1) else if k = K + 1 then some (false, ob2) else none) ≠ none → k = K ∨ k = K + 1 := fun k hk => by
        by_cases g1 : k = K
        · exact .inl g1
        · by_cases g2 : k = K + 1
          · exact .inr g2
          · rw [if_neg g1, if_neg g2] at hk; exact absurd rfl hk
      rcases hc k hk with rfl | rfl <;> rcases hc j hj with rfl | rfl
      · rfl
      · simp only [if_true] at he; rw [if_neg (by omega)] at he; exact absurd he hne
      · simp only [if_true] at he; rw [if_neg (by omega)] at he; exact absurd he.symm hne
      · rfl
  have hfr : FreeOf (Array.replicate l.toArray.size false) (fun ρ => (a.put (some s1) (.pointer (some ⟨ρ K, 0, none⟩))).put (some s2) (.pointer (some ⟨ρ (K + 1), 0, none⟩))) := by
    intro i ρ c hi
    have hlt : i < l.length := by
      rcases Nat.lt_or_ge i l.length with h' | h'
      · exact h'
      · rw [Array.getD_eq_getD_getElem?, Array.getElem?_eq_none (by simpa using h')] at hi; cases hi
    have e : upd ρ i c K = ρ K := if_neg (by omega)
    have e' : upd ρ i c (K + 1) = ρ (K + 1) := if_neg (by omega)
    simp only [e, e']
  have := wpAnyK_lex (C := BelowX (fun k => k = b1 ∨ k = b2) w) (md := .any) hB.1 l 0 (Array.replicate l.toArray.size false) _ _ (by simp) (by simpa using hB.2) h
  have h3 := wpAny_of_keptX (Q := fun a' B => ∀ ρ w', FitsX (fun k => k = b1 ∨ k = b2) w ρ B w' → Q .normal (a' ρ) w') (fun a' B ρ w' hf' h' => h' ρ w' hf') _ _ _ _ _ _ hf hfr this
  simp only [if_true] at h3
  rw [if_neg (by omega)] at h3
  rw [ha] at h3
  simpa using h3
theorem Blk.keepX {w w' : World} {b : Nat} {cs : Array Value} (h : Blk w b cs) (hb : BelowX X w w') (hx : ¬ X b) : Blk w' b cs := by
  have hl := h.lt
  obtain ⟨t, h⟩ := h
  exact ⟨t, (hb.block b hl hx).trans h⟩
end
end Go.Proofs.YtgnppdkeiihlfaaGreatDoor
namespace Go.Proofs.YtgnppdkeiihlfaaGreatDoor
open Go.RowKit Num
theorem canon_0 : canon 0 = [] := by decide +kernel
theorem canon_1 : canon 1 = [49] := by decide +kernel
theorem cmpQ_le0 {p q : Rat} : cmpQ p q ≤ 0 ↔ p ≤ q := by
  rw [cmpQ_if]
  by_cases h1 : p < q
  · rw [if_pos h1]; exact ⟨fun _ => Rat.le_of_lt h1, fun _ => by decide⟩
  · rw [if_neg h1]
    by_cases h2 : q < p
    · rw [if_pos h2]; exact ⟨fun h => by omega, fun h => by grind⟩
    · rw [if_neg h2]; exact ⟨fun _ => by grind, fun _ => by decide⟩
theorem ten_u (p : Int) : val [49, 48] ^ p.toNat = ((10 ^ p.toNat : Nat) : Int) := by
  rw [show val [49, 48] = ((10 : Nat) : Int) by decide, ← Int.natCast_pow]
theorem u_pos (p : Int) : 0 < ((10 ^ p.toNat : Nat) : Int) := by have := Nat.pow_pos (a := 10) (n := p.toNat) (by decide); omega
theorem u_abs {p : Int} (h : p ≤ 12) : (((10 ^ p.toNat : Nat) : Int)).natAbs < 10 ^ 13 := by
  rw [Int.natAbs_natCast]
  exact Nat.pow_lt_pow_right (by decide) (by omega)
theorem u_len {p : Int} (h : p ≤ 12) : (canon ((10 ^ p.toNat : Nat) : Int)).length ≤ 15 := Nat.le_trans (canon_len_le _ 13 (u_abs h)) (by decide)
theorem rat_pow_int (q : Rat) (n : Nat) : q ^ ((n : Nat) : Int) = q ^ n := Rat.zpow_natCast q n
/-- the number in a string -/
def strZ : Value → Int
  | .string s => val s.data.toList
  | _ => 0
theorem strZ_canon (z : Int) : strZ (.string ⟨(canon z).toArray⟩) = z := by show val (canon z).toArray.toList = z; rw [List.toList_toArray]; exact val_canon z
theorem len_of {z : Int} {N : Nat} (h : z.natAbs < 10 ^ N) (hN : N ≤ 9000) : (canon z).length ≤ 9001 := Nat.le_trans (canon_len_le _ _ h) (by omega)
set_option maxHeartbeats 4000000 in
set_option maxRecDepth 100000 in
theorem twGreatest (b11 b3 : Nat) (Qb : Int → Bool) (z : Int) (N : Nat) (w : World) (hG : Glob w) (hz : 0 ≤ z) (hN : N ≤ 9000) (hzl : (2 * z + 2).natAbs < 10 ^ N) (hQ : ∀ y, 1 ≤ y → (Qb y = true ↔ y ≤ z))
    (hC : ∀ y, 1 ≤ y → y ≤ 2 * z + 2 → RetB w 180 #[.string ⟨(canon y).toArray⟩, .pointer (some ⟨b11, 0, none⟩), .pointer (some ⟨b3, 0, none⟩)] (.bool (Qb y))) :
    Calls Tryz.prog 179 #[.func (Fn.func 180) #[] #[.pointer (some ⟨b11, 0, none⟩), .pointer (some ⟨b3, 0, none⟩)]] w fun e w' => e = .returned (.string ⟨(canon z).toArray⟩) ∧ Below w.heap.size w w' := by
  have HLn : Hid (∀ y, 0 ≤ y → y ≤ 2 * z + 2 → (canon y).length ≤ 9001) := fun y h1 h2 => len_of (N := N) (by omega) hN
  have HQ := Lib.hid hQ
  have HC := Lib.hid hC
  have hb := Below.refl w.heap.size w
  clear hQ hC hzl hN
  go_enter Tryz.func179, Tryz.ntmps179
  go_wp2_with fail
  go_loopw [3, 4] (fun lv hv wr => ∃ lo hi : Int, 0 ≤ lo ∧ lo ≤ z ∧ lo < hi ∧ 1 ≤ hi ∧ hi ≤ 2 * z + 1 ∧ lv = .string ⟨(canon lo).toArray⟩ ∧ hv = .string ⟨(canon hi).toArray⟩ ∧ Below w.heap.size w wr) (fun _ hv _ => (z + 1 - strZ hv).toNat)
  case atStart => exact ⟨0, 1, Int.le_refl _, hz, by omega, by omega, by omega, by rw [canon_0], by rw [canon_1], hb⟩
  case round =>
    clear hb
    obtain ⟨lo, hi, h1, h2, h3, h4, h5, rfl, rfl, hb⟩ := hrel
    have C1 := Lib.hid (HC.out hi h4 (by omega))
    by_cases g : hi ≤ z
    · rw [(HQ.out hi h4).2 g] at C1
      have C2 := Lib.hid (riAdd (l := canon hi) (l' := canon hi) (by have := HLn.out hi (by omega) (by omega); omega) (by have := HLn.out hi (by omega) (by omega); omega) (show _ = hi + hi by rw [val_canon]))
      have hm : (z + 1 - strZ (.string ⟨(canon (hi + hi)).toArray⟩)).toNat < (z + 1 - strZ (.string ⟨(canon hi).toArray⟩)).toNat := by rw [strZ_canon, strZ_canon]; omega
      have HM := Lib.hid hm
      clear hm
      go_wp2_with fail
      ((with_reducible refine (C1.out.of hG hb).mono ?_); rintro e w4 ⟨rfl, hb4⟩)
      replace hb := bto hb hb4
      clear hb4 C1
      go_wp2_with fail
      ((with_reducible refine (C2.out.of hG hb).mono ?_); rintro e w5 ⟨rfl, hb5⟩)
      replace hb := bto hb hb5
      clear hb5 C2
      go_wp2
      go_roundw
      case rel => exact ⟨hi, hi + hi, by omega, g, by omega, by omega, by omega, rfl, rfl, hb⟩
      case measure => exact HM.out
    have hq : Qb hi = false := by
      cases hq : Qb hi with
      | false => rfl
      | true => exact absurd ((HQ.out hi h4).1 hq) g
    rw [hq] at C1
    clear hq
    go_wp2_with fail
    ((with_reducible refine (C1.out.of hG hb).mono ?_); rintro e w4 ⟨rfl, hb4⟩)
    replace hb := bto hb hb4
    clear hb4 C1
    go_wp2_with fail
    go_loopw [3, 4] (fun lv hv wr => ∃ lo hi : Int, 0 ≤ lo ∧ lo ≤ z ∧ z < hi ∧ hi ≤ 2 * z + 1 ∧ lv = .string ⟨(canon lo).toArray⟩ ∧ hv = .string ⟨(canon hi).toArray⟩ ∧ Below w.heap.size w wr) (fun lv hv _ => (strZ hv - strZ lv).toNat)
    case atStart => exact ⟨lo, hi, h1, h2, by omega, h5, rfl, rfl, hb⟩
    case round =>
      clear hb h1 h2 h3 h4 h5 g
      obtain ⟨lo, hi, h1, h2, h3, h5, rfl, rfl, hb⟩ := hrel
      have hl1 := HLn.out lo h1 (by omega)
      have hl2 := HLn.out hi (by omega) (by omega)
      have hl3 := HLn.out (lo + 1) (by omega) (by omega)
      have C1 := Lib.hid (riAdd (l := canon lo) (l' := [49]) (by omega) (by decide) (show _ = lo + 1 by rw [val_canon]; rfl))
      have hcz : cmpZ (lo + 1) hi < 0 ↔ lo + 1 < hi := by unfold cmpZ; split <;> (try split) <;> omega
      obtain ⟨cc, hcc⟩ : ∃ cc, cmpZ (lo + 1) hi = cc := ⟨_, rfl⟩
      have C2 := Lib.hid (riCompare (l := canon (lo + 1)) (l' := canon hi) (by omega) (by omega) (c := cc) (by rw [val_canon, val_canon]; exact hcc))
      rw [hcc] at hcz
      clear hcc
      by_cases g : hi - lo = 1
      · obtain rfl : lo = z := by omega
        have e1 : decide (cc < 0) = false := decide_eq_false (fun h => by have := hcz.1 h; omega)
        clear hcz
        go_wp2_with fail
        ((with_reducible refine (C1.out.of hG hb).mono ?_); rintro e w5 ⟨rfl, hb5⟩)
        replace hb := bto hb hb5
        clear hb5 C1
        go_wp2_with fail
        ((with_reducible refine (C2.out.of hG hb).mono ?_); rintro e w6 ⟨rfl, hb6⟩)
        replace hb := bto hb hb6
        clear hb6 C2
        go_wp2
        go_ret
        exact ⟨rfl, hb⟩
      have e1 : decide (cc < 0) = true := decide_eq_true (hcz.2 (by omega))
      have hl4 : (canon (lo + hi)).length ≤ 9010 := by
        obtain ⟨K, hK⟩ : ∃ K : Nat, K = 9001 := ⟨_, rfl⟩
        rw [← hK] at hl1 hl2
        have h1 := val_lt_of hl1
        have h2 := val_lt_of hl2
        rw [val_canon] at h1 h2
        refine Nat.le_trans (canon_len_le (lo + hi) (K + 1) ?_) (by omega)
        have e3 : 10 ^ (K + 1) = 10 ^ K * 10 := Nat.pow_succ ..
        generalize 10 ^ (K + 1) = X at *
        generalize 10 ^ K = Y at *
        omega
      have C3 := Lib.hid (riAdd (l := canon lo) (l' := canon hi) (by omega) (by omega) (show _ = lo + hi by rw [val_canon, val_canon]))
      obtain ⟨k1, k2⟩ := mid_lt (a := lo) (b := hi) (by omega)
      have C4 := Lib.hid (niDiv46 (l := canon (lo + hi)) (l' := [50]) (by omega) (by decide) (by decide) (show divZ _ (val [50]) = divZ (lo + hi) 2 by rw [val_canon]; rfl) rfl)
      generalize modZ (val (canon (lo + hi))) (val [50]) = rr at *
      generalize divZ (lo + hi) 2 = m at *
      have C5 := Lib.hid (HC.out m (by omega) (by omega))
      have hm1 : (strZ (.string ⟨(canon hi).toArray⟩) - strZ (.string ⟨(canon m).toArray⟩)).toNat < (strZ (.string ⟨(canon hi).toArray⟩) - strZ (.string ⟨(canon lo).toArray⟩)).toNat := by rw [strZ_canon, strZ_canon, strZ_canon]; omega
      have hm2 : (strZ (.string ⟨(canon m).toArray⟩) - strZ (.string ⟨(canon lo).toArray⟩)).toNat < (strZ (.string ⟨(canon hi).toArray⟩) - strZ (.string ⟨(canon lo).toArray⟩)).toNat := by rw [strZ_canon, strZ_canon, strZ_canon]; omega
      have HM1 := Lib.hid hm1
      have HM2 := Lib.hid hm2
      clear hm1 hm2 g hl1 hl2 hl3 hl4 hcz
      by_cases gm : m ≤ z
      · rw [(HQ.out m (by omega)).2 gm] at C5
        go_wp2_with fail
        ((with_reducible refine (C1.out.of hG hb).mono ?_); rintro e w5 ⟨rfl, hb5⟩)
        replace hb := bto hb hb5
        clear hb5 C1
        go_wp2_with fail
        ((with_reducible refine (C2.out.of hG hb).mono ?_); rintro e w6 ⟨rfl, hb6⟩)
        replace hb := bto hb hb6
        clear hb6 C2
        go_wp2_with fail
        ((with_reducible refine (C3.out.of hG hb).mono ?_); rintro e w7 ⟨rfl, hb7⟩)
        replace hb := bto hb hb7
        clear hb7 C3
        go_wp2_with fail
        ((with_reducible refine (C4.out.of hG hb).mono ?_); rintro e w8 ⟨rfl, hb8⟩)
        replace hb := bto hb hb8
        clear hb8 C4
        go_wp2_with fail
        ((with_reducible refine (C5.out.of hG hb).mono ?_); rintro e w9 ⟨rfl, hb9⟩)
        replace hb := bto hb hb9
        clear hb9 C5
        go_wp2
        go_roundw
        case rel => exact ⟨m, hi, by omega, gm, h3, h5, rfl, rfl, hb⟩
        case measure => exact HM1.out
      have hq : Qb m = false := by
        cases hq : Qb m with
        | false => rfl
        | true => exact absurd ((HQ.out m (by omega)).1 hq) gm
      rw [hq] at C5
      clear hq
      go_wp2_with fail
      ((with_reducible refine (C1.out.of hG hb).mono ?_); rintro e w5 ⟨rfl, hb5⟩)
      replace hb := bto hb hb5
      clear hb5 C1
      go_wp2_with fail
      ((with_reducible refine (C2.out.of hG hb).mono ?_); rintro e w6 ⟨rfl, hb6⟩)
      replace hb := bto hb hb6
      clear hb6 C2
      go_wp2_with fail
      ((with_reducible refine (C3.out.of hG hb).mono ?_); rintro e w7 ⟨rfl, hb7⟩)
      replace hb := bto hb hb7
      clear hb7 C3
      go_wp2_with fail
      ((with_reducible refine (C4.out.of hG hb).mono ?_); rintro e w8 ⟨rfl, hb8⟩)
      replace hb := bto hb hb8
      clear hb8 C4
      go_wp2_with fail
      ((with_reducible refine (C5.out.of hG hb).mono ?_); rintro e w9 ⟨rfl, hb9⟩)
      replace hb := bto hb hb9
      clear hb9 C5
      go_wp2
      go_roundw
      case rel => exact ⟨lo, m, h1, h2, by omega, by omega, rfl, rfl, hb⟩
      case measure => exact HM2.out
set_option maxHeartbeats 2000000 in
set_option maxRecDepth 100000 in
theorem twPow (y u : Int) (n bu by1 : Nat) (w : World) (hG : Glob w) (hy : (canon y).length ≤ 900) (hu : (canon u).length ≤ 900) (h0 : u ≠ 0) (hq : Bd 90 (Rat.divInt y u)) (hn : n ≤ 400) (x1 : Blk w bu #[.string ⟨(canon u).toArray⟩]) (x2 : Blk w by1 #[.int .i64 (n : Int)]) :
    Calls Tryz.prog 177 #[.string ⟨(canon y).toArray⟩, .pointer (some ⟨bu, 0, none⟩), .pointer (some ⟨by1, 0, none⟩)] w fun e w' => e = .returned (Value.agg #[Value.string ⟨List.toArray (fN ((Rat.divInt y u) ^ n))⟩, Value.string ⟨List.toArray (fD ((Rat.divInt y u) ^ n))⟩]) ∧ Below w.heap.size w w' := by
  have C1 := Lib.hid (twRatio (l := canon y) (l' := canon u) (by omega) (by omega) (by rw [val_canon]; exact h0) (show Rat.divInt _ _ = Rat.divInt y u by rw [val_canon, val_canon]))
  have hbl := bd_len hq
  have C2 := Lib.hid (rPow (l := fN (Rat.divInt y u)) (l' := fD (Rat.divInt y u)) (by omega) (by omega) (fv_frac _) (n : Int) (by omega) (by omega) (.inl (by omega)) (rat_pow_int _ n))
  obtain ⟨yi, hyi⟩ : ∃ yi : Int, yi = (n : Int) := ⟨_, rfl⟩
  rw [← hyi] at C2 x2
  generalize (Rat.divInt y u) ^ n = qn at *
  generalize Rat.divInt y u = q at *
  generalize canon y = Y at *
  generalize canon u = Us at *
  have x3 := FBox.new w (.string ⟨#[]⟩) (.string ⟨#[]⟩) 25
  have hb := below_alloc w (.cells #[.string ⟨#[]⟩, .string ⟨#[]⟩] 25)
  clear hy hu h0 hq hn hbl hyi
  go_enter Tryz.func177, Tryz.ntmps177
  go_wp2_with fail
  refine wp_region_kept (by kernel_rfl) (by kernel_rfl) ?_
  refine kept_val _ (fun _ => rfl) (fun ρ wz hw => by go_simp; first | done | with_reducible rfl) ?_
  simp only [Act.put, List.setIfInBounds_toArray, List.set_cons_zero, List.set_cons_succ, Nat.reduceAdd]
  refine kept_val _ (fun _ => rfl) (fun ρ wz hw => by have q0 : wz.cell? ⟨bu, 0, none⟩ = some (.string ⟨Us.toArray⟩) := (x1.below (bto hb hw)).c 0; go_simp; first | done | with_reducible rfl) ?_
  simp only [Act.put, List.setIfInBounds_toArray, List.set_cons_zero, List.set_cons_succ, Nat.reduceAdd]
  refine kept_call _ _ _ (fun _ => rfl) (fun ρ wz hw => by go_simp; first | done | with_reducible rfl) (fun wz hw => C1.out.of hG (bto hb hw)) ?_
  simp only [Act.put, List.setIfInBounds_toArray, List.set_cons_zero, List.set_cons_succ, Nat.reduceAdd]
  refine kept_val _ (fun _ => rfl) (fun ρ wz hw => by have q0 : wz.cell? ⟨by1, 0, none⟩ = some (.int .i64 yi) := (x2.below (bto hb hw)).c 0; go_simp; first | done | with_reducible rfl) ?_
  simp only [Act.put, List.setIfInBounds_toArray, List.set_cons_zero, List.set_cons_succ, Nat.reduceAdd]
  refine kept_call _ _ _ (fun _ => rfl) (fun ρ wz hw => by go_simp; first | done | with_reducible rfl) (fun wz hw => C2.out.of hG (bto hb hw)) ?_
  simp only [Act.put, List.setIfInBounds_toArray, List.set_cons_zero, List.set_cons_succ, Nat.reduceAdd]
  refine kept_val _ (fun _ => rfl) (fun ρ wz hw => by go_simp; first | done | with_reducible rfl) ?_
  simp only [Act.put, List.setIfInBounds_toArray, List.set_cons_zero, List.set_cons_succ, Nat.reduceAdd]
  refine kept_val _ (fun _ => rfl) (fun ρ wz hw => by go_simp; first | done | with_reducible rfl) ?_
  simp only [Act.put, List.setIfInBounds_toArray, List.set_cons_zero, List.set_cons_succ, Nat.reduceAdd]
  refine kept_val _ (fun _ => rfl) (fun ρ wz hw => by go_simp; first | done | with_reducible rfl) ?_
  simp only [Act.put, List.setIfInBounds_toArray, List.set_cons_zero, List.set_cons_succ, Nat.reduceAdd]
  refine kept_box (fun b => .pointer (some ⟨b, 0, none⟩)) _ rfl (fun _ => rfl) (fun ρ wz hw => by go_simp; first | done | with_reducible rfl) ?_
  simp only [Act.put, List.setIfInBounds_toArray, List.set_cons_zero, List.set_cons_succ, Nat.reduceAdd]
  refine kept_put2 8 _ 5 _ _ _ _ _ rfl rfl rfl (by decide) (fun _ => rfl) (fun ρ wz hw q0 q1 q2 q3 => by go_simp; first | done | with_reducible rfl) ?_
  simp only [Act.put, Nat.reduceAdd]
  refine kept_val _ (fun _ => rfl) (fun ρ wz hw => by go_simp; first | done | with_reducible rfl) ?_
  simp only [Act.put, List.setIfInBounds_toArray, List.set_cons_zero, List.set_cons_succ, Nat.reduceAdd]
  refine kept_end (fun ρ w2 hF => ?_)
  have x5 := FBox.ofB (hF.box 8 _ _ rfl).2
  have hbF := hF.below
  (try dsimp only)
  generalize ρ 8 = b5 at *
  replace x3 := x3.below hbF
  replace hb := bto hb hbF
  have g0 := x3.c0
  have g1 := x3.c1
  have g2 := x3.f0
  have g3 := x3.f1
  have p0 := x5.c0
  have p1 := x5.c1
  clear hF hbF C1 C2 x1 x2
  go_wp2
  have hy := x3.set (.string ⟨(fN (qn)).toArray⟩) (.string ⟨(fD (qn)).toArray⟩)
  have d0 := hy.c0
  have d1 := hy.c1
  refine bodyPost_ret (v := (Value.agg #[Value.string ⟨List.toArray (fN qn)⟩, Value.string ⟨List.toArray (fD qn)⟩])) (by simp [results, Tryz.results177, go_sem, d0, d1]) rfl ?_
  exact ⟨rfl, below_set2 hb (Nat.le_refl _) _ _⟩
set_option maxHeartbeats 2000000 in
set_option maxRecDepth 100000 in
theorem twHas {l l' : List UInt8} {f : Rat} {Qb : Bool} (y u : Int) (n bu by1 b11 b3 : Nat) (w : World) (hG : Glob w) (hy : (canon y).length ≤ 900) (hu : (canon u).length ≤ 900) (h0 : u ≠ 0) (hq : Bd 90 (Rat.divInt y u)) (hn : n ≤ 400) (x1 : Blk w bu #[.string ⟨(canon u).toArray⟩]) (x2 : Blk w by1 #[.int .i64 (n : Int)])
    (x3 : Blk w b11 #[.func (Fn.func 177) #[] #[.pointer (some ⟨bu, 0, none⟩), .pointer (some ⟨by1, 0, none⟩)]]) (x4 : Blk w b3 #[.string ⟨l.toArray⟩, .string ⟨l'.toArray⟩]) (hl : l.length ≤ 60) (hl' : l'.length ≤ 60) (hf : fv l l' = f) (hQ : decide ((Rat.divInt y u) ^ n ≤ f) = Qb) :
    RetB w 180 #[.string ⟨(canon y).toArray⟩, .pointer (some ⟨b11, 0, none⟩), .pointer (some ⟨b3, 0, none⟩)] (.bool Qb) := fun w' hbw => by
  replace hG := hG.below hbw
  replace x1 := x1.below hbw
  replace x2 := x2.below hbw
  replace x3 := x3.below hbw
  replace x4 := x4.below hbw
  have C1 : Hid (∀ w, Below w'.heap.size w' w → Calls Tryz.prog 177 #[.string ⟨(canon y).toArray⟩, .pointer (some ⟨bu, 0, none⟩), .pointer (some ⟨by1, 0, none⟩)] w fun e w2 => e = .returned (Value.agg #[Value.string ⟨List.toArray (fN ((Rat.divInt y u) ^ n))⟩, Value.string ⟨List.toArray (fD ((Rat.divInt y u) ^ n))⟩]) ∧ Below w.heap.size w w2) := fun w hw => twPow y u n bu by1 w (hG.below hw) hy hu h0 hq hn (x1.below hw) (x2.below hw)
  have C2 := Lib.hid (rCompare (isq_fr (bd_pow hq n) (by omega)) (isq_raw (k := 60) hl hl' (by decide)) rfl)
  have HQ : Hid (decide (cmpQ ((Rat.divInt y u) ^ n) (fv l l') ≤ 0) = Qb) := by
    show _ = _
    rw [← hQ, hf]
    exact decide_eq_decide.2 cmpQ_le0
  generalize cmpQ ((Rat.divInt y u) ^ n) (fv l l') = P at *
  generalize (Rat.divInt y u) ^ n = q at *
  generalize canon y = Y at *
  clear hbw hy hu h0 hq hn hl hl' hf hQ x1 x2
  go_enter Tryz.func180, Tryz.ntmps180
  go_wp2_with fail
  refine wp_region_kept (by kernel_rfl) (by kernel_rfl) ?_
  refine kept_val _ (fun _ => rfl) (fun ρ wz hw => by have q0 : wz.cell? ⟨b11, 0, none⟩ = some (.func (Fn.func 177) #[] #[.pointer (some ⟨bu, 0, none⟩), .pointer (some ⟨by1, 0, none⟩)]) := (x3.below hw).c 0; go_simp; first | done | with_reducible rfl) ?_
  simp only [Act.put, List.setIfInBounds_toArray, List.set_cons_zero, List.set_cons_succ, Nat.reduceAdd]
  refine kept_val _ (fun _ => rfl) (fun ρ wz hw => by go_simp; first | done | with_reducible rfl) ?_
  simp only [Act.put, List.setIfInBounds_toArray, List.set_cons_zero, List.set_cons_succ, Nat.reduceAdd]
  refine kept_call _ _ _ (fun _ => rfl) (fun ρ wz hw => by go_simp; first | done | with_reducible rfl) (fun wz hw => C1.out wz hw) ?_
  simp only [Act.put, List.setIfInBounds_toArray, List.set_cons_zero, List.set_cons_succ, Nat.reduceAdd]
  refine kept_val _ (fun _ => rfl) (fun ρ wz hw => by have q0 : wz.cell? ⟨b3, 0, none⟩ = some (.string ⟨l.toArray⟩) := (x4.below hw).c 0; have q1 : wz.cell? ⟨b3, 1, none⟩ = some (.string ⟨l'.toArray⟩) := (x4.below hw).c 1; go_simp; first | done | with_reducible rfl) ?_
  simp only [Act.put, List.setIfInBounds_toArray, List.set_cons_zero, List.set_cons_succ, Nat.reduceAdd]
  refine kept_call _ _ _ (fun _ => rfl) (fun ρ wz hw => by go_simp; first | done | with_reducible rfl) (fun wz hw => C2.out.of hG hw) ?_
  simp only [Act.put, List.setIfInBounds_toArray, List.set_cons_zero, List.set_cons_succ, Nat.reduceAdd]
  refine kept_val _ (fun _ => rfl) (fun ρ wz hw => by go_simp; first | done | with_reducible rfl) ?_
  simp only [Act.put, List.setIfInBounds_toArray, List.set_cons_zero, List.set_cons_succ, Nat.reduceAdd]
  refine kept_val _ (fun _ => rfl) (fun ρ wz hw => by go_simp; first | done | with_reducible rfl) ?_
  simp only [Act.put, List.setIfInBounds_toArray, List.set_cons_zero, List.set_cons_succ, Nat.reduceAdd]
  refine kept_end (fun ρ w2 hF => ?_)
  have hb := hF.below
  clear hF
  go_wp2
  go_ret
  exact ⟨retb HQ.out, hb⟩
end Go.Proofs.YtgnppdkeiihlfaaGreatDoor
