/- How often the signs of the sums change: package moneyweighted. -/
import Derived.Test.YtolbojchdlojnaaGreatDoorWe
namespace Go.Proofs.YtolbojchdlojnaaGreatDoor
open Go.RowKit Go.Shelf Num
attribute [local go_sem] Oper.semAt_some
/-- the state of signs behind the sums ys -/
structure SgAt (w : World) (R : Loop) (A : Option Addr) (n c : Nat) (ys : List Int) (W : World) : Prop where
  below : Below w.heap.size w W
  loop : W.heap[w.heap.size + 5]? = some (.loop R)
  dfr : W.heap[w.heap.size + 4]? = some (.deferred (some []))
  lst : Blk W (w.heap.size + 1 + 1 + 1) #[.slice A n c]
  ch : Blk W w.heap.size #[.int .i64 (sgFold ys).1]
  fi : Blk W (w.heap.size + 1) #[.int .i64 (sgFold ys).2.1]
  la : Blk W (w.heap.size + 1 + 1) #[.int .i64 (sgFold ys).2.2]
theorem SgAt.mono {w W W' : World} {R : Loop} {A : Option Addr} {n c : Nat} {ys : List Int} (h : SgAt w R A n c ys W) (hb : Below W.heap.size W W') : SgAt w R A n c ys W' :=
  ⟨bto h.below hb, (hb.block _ (Array.getElem?_eq_some_iff.1 h.loop).1).trans h.loop, (hb.block _ (Array.getElem?_eq_some_iff.1 h.dfr).1).trans h.dfr, h.lst.below hb, h.ch.below hb, h.fi.below hb, h.la.below hb⟩
theorem setCell_loop {w : World} {l c i : Nat} {u : Value} {ob : Obj} (h : w.heap[l]? = some ob) (hn : l ≠ c) : (w.setCell ⟨c, i, none⟩ u).heap[l]? = some ob := (Below.heap_setCell w ⟨c, i, none⟩ u l hn).trans h
theorem SgAt.done {w W : World} {R R1 R2 : Loop} {A : Option Addr} {n c : Nat} {ys : List Int} (hR : R2 = R) (h : SgAt w R1 A n c ys W) : SgAt w R A n c ys (W.putObj (w.heap.size + 5) (.loop R2)) := by
  subst hR
  exact ⟨below_put h.below (by omega), World.putObj_heap_same (Array.getElem?_eq_some_iff.1 h.loop).1, (World.putObj_heap_other (by omega)).trans h.dfr, h.lst.putO (by omega), h.ch.putO (by omega), h.fi.putO (by omega), h.la.putO (by omega)⟩
theorem SgAt.go1 {w W : World} {R : Loop} {A : Option Addr} {n c : Nat} {ys : List Int} {y : Int} (h : SgAt w R A n c ys W) (h0 : (sgFold ys).2.1 = 0) : SgAt w R A n c (ys ++ [y]) ((W.setCell ⟨w.heap.size + 1, 0, none⟩ (.int .i64 (cmpZ y 0))).setCell ⟨w.heap.size + 1 + 1, 0, none⟩ (.int .i64 (cmpZ y 0))) := by
  have e : sgFold (ys ++ [y]) = ((sgFold ys).1, cmpZ y 0, cmpZ y 0) := by rw [sgFold_snoc]; unfold sgStep; rw [if_pos h0, if_pos h0]
  refine ⟨(h.below.setCell (p := ⟨_, 0, none⟩) (Nat.le_add_right _ _) _).setCell (p := ⟨_, 0, none⟩) (by show w.heap.size ≤ w.heap.size + 1 + 1; omega) _, setCell_loop (setCell_loop h.loop (by omega)) (by omega), setCell_loop (setCell_loop h.dfr (by omega)) (by omega), (h.lst.setO (by omega)).setO (by omega), ?_, ?_, ?_⟩
  · rw [e]; exact (h.ch.setO (by omega)).setO (by omega)
  · rw [e]; exact (h.fi.set1 _).setO (by omega)
  · rw [e]; exact (h.la.setO (by omega)).set1 _
theorem SgAt.go2 {w W : World} {R : Loop} {A : Option Addr} {n c : Nat} {ys : List Int} {y : Int} (h : SgAt w R A n c ys W) (h0 : (sgFold ys).2.1 ≠ 0) (h1 : cmpZ y 0 = (sgFold ys).2.2) : SgAt w R A n c (ys ++ [y]) (W.setCell ⟨w.heap.size + 1 + 1, 0, none⟩ (.int .i64 (cmpZ y 0))) := by
  have e : sgFold (ys ++ [y]) = ((sgFold ys).1, (sgFold ys).2.1, cmpZ y 0) := by rw [sgFold_snoc]; unfold sgStep; rw [if_neg h0, if_neg h0, if_pos h1]
  refine ⟨h.below.setCell (p := ⟨_, 0, none⟩) (by show w.heap.size ≤ w.heap.size + 1 + 1; omega) _, setCell_loop h.loop (by omega), setCell_loop h.dfr (by omega), h.lst.setO (by omega), ?_, ?_, ?_⟩
  · rw [e]; exact h.ch.setO (by omega)
  · rw [e]; exact h.fi.setO (by omega)
  · rw [e]; exact h.la.set1 _
theorem SgAt.go3 {w W : World} {R : Loop} {A : Option Addr} {n c : Nat} {ys : List Int} {y : Int} (h : SgAt w R A n c ys W) (h0 : (sgFold ys).2.1 ≠ 0) (h1 : cmpZ y 0 ≠ (sgFold ys).2.2) : SgAt w R A n c (ys ++ [y]) ((W.setCell ⟨w.heap.size, 0, none⟩ (.int .i64 ((sgFold ys).1 + 1))).setCell ⟨w.heap.size + 1 + 1, 0, none⟩ (.int .i64 (cmpZ y 0))) := by
  have e : sgFold (ys ++ [y]) = ((sgFold ys).1 + 1, (sgFold ys).2.1, cmpZ y 0) := by rw [sgFold_snoc]; unfold sgStep; rw [if_neg h0, if_neg h0, if_neg h1]
  refine ⟨(h.below.setCell (p := ⟨_, 0, none⟩) (Nat.le_refl _) _).setCell (p := ⟨_, 0, none⟩) (by show w.heap.size ≤ w.heap.size + 1 + 1; omega) _, setCell_loop (setCell_loop h.loop (by omega)) (by omega), setCell_loop (setCell_loop h.dfr (by omega)) (by omega), (h.lst.setO (by omega)).setO (by omega), ?_, ?_, ?_⟩
  · rw [e]; exact (h.ch.set1 _).setO (by omega)
  · rw [e]; exact (h.fi.setO (by omega)).setO (by omega)
  · rw [e]; exact (h.la.setO (by omega)).set1 _
set_option maxRecDepth 100000 in
set_option maxHeartbeats 4000000 in
theorem mwSigns (A : Option Addr) (ps : List Pay) (n c : Nat) (w : World) (hG : Glob w) (hn : ps.length = n) (hn3 : n ≤ 1000) (hs : ∀ p ∈ ps, p.amt.length ≤ 1000) (h : PayAt w A ps) :
    Calls Tryz.prog 64 #[.slice A n c] w fun e w' => e = .returned (.tuple #[.int .i64 (chN (sumsL 0 (pzs ps)) : Int), .int .i64 (sg1 (sumsL 0 (pzs ps)))]) ∧ Below w.heap.size w w' := by
  refine (callsIn_wide (n := 5)).1 ?_
  refine callsIn_of_wp_marks Tryz.func64 rfl trivial ?_ rfl
  simp only [Tryz.ntmps64, List.size_toArray, List.length_cons, List.length_nil, Nat.reduceAdd, Nat.reduceSub, Array.replicate_succ, Array.replicate_zero, List.push_toArray, List.append_toArray, List.nil_append, List.cons_append]
  gi_wp2_with (refine ⟨trivial, ?_⟩; gi_at_call 120; (with_reducible refine (callsIn_wide.2 (sums_any _ _ _ _)).mono ?_); rintro e w3 ⟨rfl, hw3⟩)
  refine range_goes (gf := 175) (lb := #[.pointer (some ⟨w.heap.size + 1 + 1 + 1, 0, none⟩)]) rfl (enters_of Tryz.func175 (by kernel_rfl) rfl) ?_
  intro fn R hR
  obtain ⟨W0, hW0⟩ : ∃ W0, W0 = ((((w.alloc (.cells #[.int .i64 0] 3)).alloc (.cells #[.int .i64 0] 3)).alloc (.cells #[.int .i64 0] 3)).alloc (.cells #[.slice A n c] 28)) := ⟨_, rfl⟩
  have hsz : W0.heap.size = w.heap.size + 4 := by rw [hW0]; simp only [World.size_alloc]
  have hbA : Below w.heap.size w W0 := by rw [hW0]; exact bto (below_alloc _ _) (bto (below_alloc _ _) (bto (below_alloc _ _) (below_alloc _ _)))
  have x4 : Blk W0 w.heap.size #[.int .i64 0] := by rw [hW0]; exact (((Blk.new w _ _).below (below_alloc _ _)).below (below_alloc _ _)).below (below_alloc _ _)
  have x5 : Blk W0 (w.heap.size + 1) #[.int .i64 0] := by rw [hW0]; have h1 := ((Blk.new (w.alloc (.cells #[.int .i64 0] 3)) #[.int .i64 0] 3).below (below_alloc _ (.cells #[.int .i64 0] 3))).below (below_alloc _ (.cells #[.slice A n c] 28)); simp only [World.size_alloc] at h1; exact h1
  have x6 : Blk W0 (w.heap.size + 1 + 1) #[.int .i64 0] := by rw [hW0]; have h1 := (Blk.new ((w.alloc (.cells #[.int .i64 0] 3)).alloc (.cells #[.int .i64 0] 3)) #[.int .i64 0] 3).below (below_alloc _ (.cells #[.slice A n c] 28)); simp only [World.size_alloc] at h1; exact h1
  have x7 : Blk W0 (w.heap.size + 1 + 1 + 1) #[.slice A n c] := by rw [hW0]; have h1 := Blk.new (((w.alloc (.cells #[.int .i64 0] 3)).alloc (.cells #[.int .i64 0] 3)).alloc (.cells #[.int .i64 0] 3)) #[.slice A n c] 28; simp only [World.size_alloc] at h1; exact h1
  rw [← hW0] at hR ⊢
  clear hW0
  obtain ⟨W1, hW1⟩ : ∃ W1, W1 = (W0.alloc (.deferred (some []))).alloc (.loop R) := ⟨_, rfl⟩
  have hbB : Below W0.heap.size W0 W1 := by rw [hW1]; exact bto (below_alloc _ _) (below_alloc _ _)
  have hD : W1.heap[W0.heap.size]? = some (.deferred (some [])) := by rw [hW1]; exact (Below.heap_alloc _ _ _ (by simp)).trans (World.alloc_heap_new _ _)
  have hL : W1.heap[W0.heap.size + 1]? = some (.loop R) := by
    rw [hW1]
    have := World.alloc_heap_new (W0.alloc (.deferred (some []))) (.loop R)
    rwa [World.size_alloc] at this
  rw [← hW1]
  rw [hsz] at hD hL hR ⊢
  rw [show w.heap.size + 4 + 1 = w.heap.size + 5 from rfl] at hL ⊢
  have hS0 : SgAt w R A n c [] W1 := ⟨bto hbA hbB, hL, hD, x7.below hbB, x4.below hbB, x5.below hbB, x6.below hbB⟩
  clear hW1 hbB hD hL x4 x5 x6 x7 hbA hsz
  have hY : ∀ ys y W, SgAt w R A n c ys W → y ≠ 0 → (canon y).length ≤ 3000 → ys.length < n → YieldAt Fence.wide (4 - 1) Tryz.prog (w.heap.size + 5) #[.string ⟨(canon y).toArray⟩] W fun e W' => e = .returned (.bool true) ∧ SgAt w R A n c (ys ++ [y]) W' := by
    intro ys y W hS hy0 hcl hlen
    have hy := run_yield (P := Tryz.prog) (args := #[.string ⟨(canon y).toArray⟩]) hS.loop (by rw [hR]; rfl)
    refine ⟨R.fn, _, R.assign, R.body, hy, roundIn_of_wpIn trivial ?_⟩
    have hbr := run_beginRound (P := Tryz.prog) hS.loop (by rw [hR])
    have hS1 : SgAt w { R with state := .busy } A n c ys (W.putObj (w.heap.size + 5) (.loop { R with state := .busy })) := SgAt.done rfl hS
    obtain ⟨Wb, hWb⟩ : ∃ Wb, Wb = W.putObj (w.heap.size + 5) (.loop { R with state := .busy }) := ⟨_, rfl⟩
    rw [← hWb] at hS1 hbr
    have hRe : ({ { R with state := .busy } with state := .ready, pending := none } : Loop) = R := by rw [hR]
    obtain ⟨R1, hR1⟩ : ∃ R1, R1 = { R with state := .busy } := ⟨_, rfl⟩
    rw [← hR1] at hS1 hRe
    have HS := Lib.hid hS1
    have HBr := Lib.hid hbr
    have HRe := Lib.hid hRe
    have hc := riCompare (l := canon y) (l' := []) (by omega) (by decide) (c := cmpZ y 0) (by rw [val_canon, val_nil])
    have HC := Lib.hid hc
    obtain ⟨b1, b2⟩ := sgFold_bd ys
    have f0 := hS1.fi.c 0
    have l0 := hS1.la.c 0
    have hbW := hS1.below
    obtain ⟨L, hL⟩ : ∃ L, L = canon y := ⟨_, rfl⟩
    rw [← hL] at HC ⊢
    obtain ⟨s, hs'⟩ : ∃ s, s = cmpZ y 0 := ⟨_, rfl⟩
    have HS' := Lib.hid hs'
    rw [← hs'] at HC
    clear hWb hbr hy hS hy0 hS1 hc hR1 hRe hL hs' h hs hS0 hn f0 l0
    by_cases g1 : (sgFold ys).2.1 = 0
    · rw [hR]
      gi_wp2
      refine ⟨_, HBr.out, ?_⟩
      gi_wp2_with fail
      refine ⟨trivial, ?_⟩
      refine (CallsIn.inRound (w.heap.size + 5) (callsIn_wide.2 (HC.out.of hG hbW))).mono ?_
      rintro e w4 ⟨rfl, hb4⟩
      have HS4 := Lib.hid (HS.out.mono hb4)
      have q4 : w4.cell? ⟨w.heap.size, 0, none⟩ = some (.int .i64 (sgFold ys).1) := HS4.out.ch.c 0
      have q5 : w4.cell? ⟨w.heap.size + 1, 0, none⟩ = some (.int .i64 (sgFold ys).2.1) := HS4.out.fi.c 0
      have q6 : w4.cell? ⟨w.heap.size + 1 + 1, 0, none⟩ = some (.int .i64 (sgFold ys).2.2) := HS4.out.la.c 0
      have q7 := HS4.out.ch.f 0
      have q8 := HS4.out.fi.f 0
      have q9 := HS4.out.la.f 0
      have e1 : ((sgFold ys).2.1 == 0) = true := intbeq g1
      have hgo := HS4.out.go1 (y := y) g1
      rw [← HS'.out] at hgo
      have HGO := Lib.hid hgo
      clear hgo HS HS4 HC HS' hb4 hbW HBr
      clear g1
      gi_wp2
      exact ⟨_, _, run_endRound (P := Tryz.prog) none HGO.out.loop, rfl, SgAt.done (HRe.out.trans hR) HGO.out⟩
    · by_cases g2 : s = (sgFold ys).2.2
      · rw [hR]
        gi_wp2
        refine ⟨_, HBr.out, ?_⟩
        gi_wp2_with fail
        refine ⟨trivial, ?_⟩
        refine (CallsIn.inRound (w.heap.size + 5) (callsIn_wide.2 (HC.out.of hG hbW))).mono ?_
        rintro e w4 ⟨rfl, hb4⟩
        have HS4 := Lib.hid (HS.out.mono hb4)
        have q4 : w4.cell? ⟨w.heap.size, 0, none⟩ = some (.int .i64 (sgFold ys).1) := HS4.out.ch.c 0
        have q5 : w4.cell? ⟨w.heap.size + 1, 0, none⟩ = some (.int .i64 (sgFold ys).2.1) := HS4.out.fi.c 0
        have q6 : w4.cell? ⟨w.heap.size + 1 + 1, 0, none⟩ = some (.int .i64 (sgFold ys).2.2) := HS4.out.la.c 0
        have q7 := HS4.out.ch.f 0
        have q8 := HS4.out.fi.f 0
        have q9 := HS4.out.la.f 0
        have e1 : ((sgFold ys).2.1 == 0) = false := intbne g1
        have e2 : (s != (sgFold ys).2.2) = false := bneq (intbeq g2)
        have hgo := HS4.out.go2 (y := y) g1 (HS'.out.symm.trans g2)
        rw [← HS'.out] at hgo
        have HGO := Lib.hid hgo
        clear hgo HS HS4 HC HS' hb4 hbW HBr
        clear g1 g2
        gi_wp2
        exact ⟨_, _, run_endRound (P := Tryz.prog) none HGO.out.loop, rfl, SgAt.done (HRe.out.trans hR) HGO.out⟩
      · rw [hR]
        gi_wp2
        refine ⟨_, HBr.out, ?_⟩
        gi_wp2_with fail
        refine ⟨trivial, ?_⟩
        refine (CallsIn.inRound (w.heap.size + 5) (callsIn_wide.2 (HC.out.of hG hbW))).mono ?_
        rintro e w4 ⟨rfl, hb4⟩
        have HS4 := Lib.hid (HS.out.mono hb4)
        have q4 : w4.cell? ⟨w.heap.size, 0, none⟩ = some (.int .i64 (sgFold ys).1) := HS4.out.ch.c 0
        have q5 : w4.cell? ⟨w.heap.size + 1, 0, none⟩ = some (.int .i64 (sgFold ys).2.1) := HS4.out.fi.c 0
        have q6 : w4.cell? ⟨w.heap.size + 1 + 1, 0, none⟩ = some (.int .i64 (sgFold ys).2.2) := HS4.out.la.c 0
        have q7 := HS4.out.ch.f 0
        have q8 := HS4.out.fi.f 0
        have q9 := HS4.out.la.f 0
        have e1 : ((sgFold ys).2.1 == 0) = false := intbne g1
        have e2 : (s != (sgFold ys).2.2) = true := bneq' (intbne g2)
        have hgo := HS4.out.go3 (y := y) g1 (fun h => g2 (HS'.out.trans h))
        rw [← HS'.out] at hgo
        have HGO := Lib.hid hgo
        clear hgo HS HS4 HC HS' hb4 hbW HBr
        clear g1 g2
        gi_wp2
        exact ⟨_, _, run_endRound (P := Tryz.prog) none HGO.out.loop, rfl, SgAt.done (HRe.out.trans hR) HGO.out⟩
  have key := sums1_in (5 - 1) (w.heap.size + 5) (w.heap.size + 1 + 1 + 1) A ps n c w (SgAt w R A n c) hG hn hn3 hs h (fun ys W h => h.below) (fun ys W h => h.lst) (fun ys W W' h hb => h.mono hb) hY W1 hS0
  refine key.mono ?_
  rintro e W2 ⟨hv, hS2⟩
  refine ⟨hv, hS2.loop, ?_⟩
  have hS3 : SgAt w { R with state := .exhausted } A n c (sumsL 0 (pzs ps)) (W2.putObj (w.heap.size + 5) (.loop { R with state := .exhausted })) := SgAt.done rfl hS2
  obtain ⟨W3, hW3⟩ : ∃ W3, W3 = W2.putObj (w.heap.size + 5) (.loop { R with state := .exhausted }) := ⟨_, rfl⟩
  rw [← hW3] at hS3 ⊢
  have e := sgFold_eq _ (sums_ne (pzs ps))
  have q4 : W3.cell? ⟨w.heap.size, 0, none⟩ = some (.int .i64 (chN (sumsL 0 (pzs ps)) : Int)) := by have := hS3.ch.c 0; rw [e] at this; exact this
  have q5 : W3.cell? ⟨w.heap.size + 1, 0, none⟩ = some (.int .i64 (sg1 (sumsL 0 (pzs ps)))) := by have := hS3.fi.c 0; rw [e] at this; exact this
  have HS3 := Lib.hid hS3
  clear hW3 hS3 e key hY hS2 hS0 hv h hs
  gi_wp2_with fail
  refine wpIn_wide.2 ?_
  go_quiet (fail)
  have hD5 : (W3.drewN nq).heap[w.heap.size + 4]? = some (.deferred (some [])) := HS3.out.dfr
  have hb5 := bdrewN HS3.out.below nq
  gi_wp2
  refine ⟨by simp, .inl ⟨_, _, rfl, run_takeDeferred hD5, ?_⟩⟩
  refine ⟨_, by simp [results, Tryz.results64, go_sem]; rfl, ?_⟩
  exact ⟨rfl, below_put hb5 (by omega)⟩
end Go.Proofs.YtolbojchdlojnaaGreatDoor
