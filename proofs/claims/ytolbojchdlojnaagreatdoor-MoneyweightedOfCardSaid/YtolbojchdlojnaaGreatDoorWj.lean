/- Where a number stands to the root; the greatest number that is not greater: package moneyweighted. -/
import Derived.Test.YtolbojchdlojnaaGreatDoorWi
import Derived.Test.YtolbojchdlojnaaGreatDoorBx
namespace Go.Proofs.YtolbojchdlojnaaGreatDoor
open Go.RowKit Num
section
variable {l l' : List UInt8}
theorem niDiv (hl : l.length ≤ 100000000) (hl' : l'.length ≤ 100000000) (h0 : val l' ≠ 0) {q r : Int} (e : divZ (val l) (val l') = q) (e' : modZ (val l) (val l') = r) : Ret 146 #[.string ⟨l.toArray⟩, .string ⟨l'.toArray⟩] (.tuple #[.string ⟨(canon q).toArray⟩, .string ⟨(canon r).toArray⟩, .int .i64 0]) := fun w hG => by
  subst e; subst e'; exact idiv_any l l' w hl hl' hG h0
theorem niNeg (hl : l.length ≤ 100000000) {z : Int} (e : -val l = z) : Ret 13 #[.string ⟨l.toArray⟩] (.string ⟨(canon z).toArray⟩) := fun w hG => by
  subst e; exact neg_any l w hl hG
theorem niMul (hl : l.length ≤ 100000000) (hl' : l'.length ≤ 100000000) {z : Int} (e : val l * val l' = z) : Ret 21 #[.string ⟨l.toArray⟩, .string ⟨l'.toArray⟩] (.string ⟨(canon z).toArray⟩) := fun w hG => by
  subst e; exact mul_any l l' w hl hl' hG
theorem niSub (hl : l.length ≤ 100000000) (hl' : l'.length ≤ 100000000) {z : Int} (e : val l - val l' = z) : Ret 59 #[.string ⟨l.toArray⟩, .string ⟨l'.toArray⟩] (.string ⟨(canon z).toArray⟩) := fun w hG => by
  subst e; exact isub_any l l' w hl hl' hG
theorem niPower (hl : l.length ≤ 100000) {n : Nat} (hn : n ≤ 400) {z : Int} (e : val l ^ n = z) : Ret 36 #[.string ⟨l.toArray⟩, .int .i64 (n : Int)] (.tuple #[.string ⟨(canon z).toArray⟩, .int .i64 0]) := fun w hG => by
  subst e; exact ipower_any l n w hl hn hG
end
theorem fN_ne {q : Rat} (h : q ≠ 0) : fN q ≠ [] := fun e => h (by
  have h1 : q.num = 0 := by rw [← val_fN q, e]; rfl
  exact Rat.num_eq_zero.1 h1)
section
variable {w : World} {A : Option Addr} {ps : List Pay} {n : Nat} {q : Rat} {s : Int}
set_option maxHeartbeats 2000000 in
set_option maxRecDepth 100000 in
theorem mwPlace (hG : Glob w) (h : PL w A ps n) (hs : s = 1 ∨ s = -1) (hV : q ≠ 0 → ValAt ps q)(c : Nat) : RetB w 68 #[.slice A n c, .int .i64 s, (Value.agg #[Value.string ⟨List.toArray (fN q)⟩, Value.string ⟨List.toArray (fD q)⟩])] (.int .i64 (placeQ s (pzs ps) q)) := fun w' hbw => by
  have hG' := hG.below hbw
  have hP := h.below hbw
  clear hG h hbw
  have x5 := FBox.new w' (.string ⟨(fN q).toArray⟩) (.string ⟨(fD q).toArray⟩) 30
  have hb := below_alloc w' (.cells #[.string ⟨(fN q).toArray⟩, .string ⟨(fD q).toArray⟩] 30)
  have q0 := x5.c0
  have q1 := x5.c1
  by_cases h0 : q = 0
  · have HV : Hid (placeQ s (pzs ps) q = -1) := if_pos h0
    subst h0
    rw [fN0, fD0] at *
    clear hV hP x5
    go_enter Tryz.func68, Tryz.ntmps68
    go_wp2
    go_ret
    exact ⟨reti HV.out.symm, hb⟩
  have HV : Hid (placeQ s (pzs ps) q = s * cmpQ (valQ q (pzs ps)) 0) := if_neg h0
  obtain ⟨hb1, hb2⟩ := (hV h0).bd
  have C1 := Lib.hid (mwValueB hG' hP (hV h0) c)
  have C2 := Lib.hid (rCompare (isq_fr hb1 (by decide)) isq_zero rfl)
  have hcb := cmpQ_bound (valQ q (pzs ps)) 0
  have hne := fN_ne h0
  clear hV hb1 hb2 h0
  obtain ⟨V, hVV⟩ : ∃ V, V = valQ q (pzs ps) := ⟨_, rfl⟩
  rw [← hVV] at C1 C2 HV hcb
  obtain ⟨cc, hcc⟩ : ∃ cc, cc = cmpQ V 0 := ⟨_, rfl⟩
  rw [← hcc] at C2 HV hcb
  clear hVV hcc
  have hw1 : IntKind.i64.wrap (s * cc) = s * cc := Go.IntWalk.i64_in _ (by rcases hs with rfl | rfl <;> omega)
  have HVr := HV
  generalize placeQ s (pzs ps) q = P at *
  generalize fN q = Nq at *
  generalize fD q = Dq at *
  have e1 : (Nq == []) = false := by rw [beq_eq_false_iff_ne]; exact hne
  have e2 : Nq.isEmpty = false := by rw [List.isEmpty_eq_false_iff]; exact hne
  clear hne
  clear hs hcb HV hP
  go_enter Tryz.func68, Tryz.ntmps68
  go_wp2_with fail
  ((with_reducible refine (C1.out.of hG' hb).mono ?_); rintro e w2 ⟨rfl, hb2⟩)
  replace hb := bto hb hb2
  clear q0 q1 hb2 x5
  go_wp2_with fail
  ((with_reducible refine (C2.out.of hG' hb).mono ?_); rintro e w3 ⟨rfl, hb3⟩)
  go_wp2
  go_ret
  exact ⟨reti HVr.out.symm, bto hb hb3⟩
set_option maxHeartbeats 2000000 in
set_option maxRecDepth 100000 in
theorem mrPlace (hG : Glob w) (h : PL w A ps n) (hs : s = 1 ∨ s = -1) (hV : q ≠ 0 → ValAt ps q)(c : Nat) : RetB w 87 #[.slice A n c, (Value.agg #[Value.string ⟨List.toArray (fN q)⟩, Value.string ⟨List.toArray (fD q)⟩]), .int .i64 s] (.int .i64 (placeQ (-s) (pzs ps) q)) := fun w' hbw => by
  have hG' := hG.below hbw
  have hP := h.below hbw
  clear hG h hbw
  have x5 := FBox.new w' (.string ⟨(fN q).toArray⟩) (.string ⟨(fD q).toArray⟩) 30
  have hb := below_alloc w' (.cells #[.string ⟨(fN q).toArray⟩, .string ⟨(fD q).toArray⟩] 30)
  have q0 := x5.c0
  have q1 := x5.c1
  by_cases h0 : q = 0
  · have HV : Hid (placeQ (-s) (pzs ps) q = -1) := if_pos h0
    have C0 := Lib.hid (sSign (l := fN q) (l' := fD q) (by rw [h0]; decide +kernel) (by rw [h0]; decide +kernel) (c := 0) (by rw [fv_frac, h0]; decide +kernel))
    generalize fN q = Nq at *
    generalize fD q = Dq at *
    clear hV hP x5 h0
    go_enter Tryz.func87, Tryz.ntmps87
    go_wp2_with fail
    ((with_reducible refine (C0.out.of hG' hb).mono ?_); rintro e w2 ⟨rfl, hb2⟩)
    go_wp2
    go_ret
    exact ⟨reti HV.out.symm, bto hb hb2⟩
  have HV : Hid (placeQ (-s) (pzs ps) q = (-s) * cmpQ (valQ q (pzs ps)) 0) := if_neg h0
  obtain ⟨hb1, hb2⟩ := (hV h0).bd
  have C0 := Lib.hid (sSign (l := fN q) (l' := fD q) (by have := (bd_len hb2).1; omega) (by have := (bd_len hb2).2; omega) (c := cmpQ q 0) (by rw [fv_frac]))
  have e0 : (cmpQ q 0 == 0) = false := intbne (fun h => h0 ((cmpQ_eq _ _).1 h))
  generalize cmpQ q 0 = z0 at *
  have C1 := Lib.hid (mrValueOfB hG' hP (hV h0) c)
  have C2 := Lib.hid (sSign (l := fN (valQ q (pzs ps))) (l' := fD (valQ q (pzs ps))) (by have := (bd_len hb1).1; omega) (by have := (bd_len hb1).2; omega) (by rw [fv_frac]))
  have hcb := cmpQ_bound (valQ q (pzs ps)) 0
  clear hV hb1 hb2 h0
  obtain ⟨V, hVV⟩ : ∃ V, V = valQ q (pzs ps) := ⟨_, rfl⟩
  rw [← hVV] at C1 C2 HV hcb
  obtain ⟨cc, hcc⟩ : ∃ cc, cc = cmpQ V 0 := ⟨_, rfl⟩
  rw [← hcc] at C2 HV hcb
  clear hVV hcc
  have hw1 : IntKind.i64.wrap ((-s) * cc) = (-s) * cc := Go.IntWalk.i64_in _ (by rcases hs with rfl | rfl <;> omega)
  have hw2 : IntKind.i64.wrap (-s) = -s := Go.IntWalk.i64_in _ (by omega)
  have HVr := HV
  generalize placeQ (-s) (pzs ps) q = P at *
  generalize fN q = Nq at *
  generalize fD q = Dq at *
  clear hs hcb HV hP
  go_enter Tryz.func87, Tryz.ntmps87
  go_wp2_with fail
  ((with_reducible refine (C0.out.of hG' hb).mono ?_); rintro e w0 ⟨rfl, hb0⟩)
  replace x5 := x5.below hb0
  replace q0 := x5.c0
  replace q1 := x5.c1
  replace hb := bto hb hb0
  clear hb0
  go_wp2_with fail
  ((with_reducible refine (C1.out.of hG' hb).mono ?_); rintro e w2 ⟨rfl, hb2⟩)
  replace hb := bto hb hb2
  clear q0 q1 hb2 x5
  go_wp2_with fail
  ((with_reducible refine (C2.out.of hG' hb).mono ?_); rintro e w3 ⟨rfl, hb3⟩)
  go_wp2
  go_ret
  exact ⟨reti HVr.out.symm, bto hb hb3⟩
end
set_option maxHeartbeats 1000000 in
set_option maxRecDepth 100000 in
theorem mwAt (y u : Int) (bu : Nat) (w : World) (hG : Glob w) (hy : (canon y).length ≤ 1000000) (hu : (canon u).length ≤ 1000000) (h0 : u ≠ 0) (hx : Blk w bu #[.string ⟨(canon u).toArray⟩]) :
    Calls Tryz.prog 65 #[.string ⟨(canon y).toArray⟩, .pointer (some ⟨bu, 0, none⟩)] w fun e w' => e = .returned (Value.agg #[Value.string ⟨List.toArray (fN (Rat.divInt y u))⟩, Value.string ⟨List.toArray (fD (Rat.divInt y u))⟩]) ∧ Below w.heap.size w w' := by
  have C1 := Lib.hid (rNew (l := canon y) (l' := canon u) hy hu (by rw [val_canon]; exact h0) (show Rat.divInt _ _ = Rat.divInt y u by rw [val_canon, val_canon]))
  generalize Rat.divInt y u = q at *
  generalize canon y = Y at *
  generalize canon u = U at *
  have x3 := FBox.new w (.string ⟨#[]⟩) (.string ⟨#[]⟩) 30
  have hb := below_alloc w (.cells #[.string ⟨#[]⟩, .string ⟨#[]⟩] 30)
  have q0 : (w.alloc (.cells #[.string ⟨#[]⟩, .string ⟨#[]⟩] 30)).cell? ⟨bu, 0, none⟩ = some (.string ⟨U.toArray⟩) := (hx.below hb).c 0
  clear hy hu h0 hx
  go_enter Tryz.func65, Tryz.ntmps65
  go_wp2_with fail
  ((with_reducible refine (C1.out.of hG hb).mono ?_); rintro e w2 ⟨rfl, hb2⟩)
  have x4 := FBox.new w2 (.string ⟨(fN q).toArray⟩) (.string ⟨(fD q).toArray⟩) 30
  have hbA := below_alloc w2 (.cells #[.string ⟨(fN q).toArray⟩, .string ⟨(fD q).toArray⟩] 30)
  replace x3 := (x3.below hb2).below hbA
  replace hb := bto hb (bto hb2 hbA)
  have g0 := x3.c0
  have g1 := x3.c1
  have g2 := x3.f0
  have g3 := x3.f1
  have p0 := x4.c0
  have p1 := x4.c1
  clear q0 hb2 hbA
  go_wp2
  have hy := x3.set (.string ⟨(fN q).toArray⟩) (.string ⟨(fD q).toArray⟩)
  have d0 := hy.c0
  have d1 := hy.c1
  refine bodyPost_ret (v := (Value.agg #[Value.string ⟨List.toArray (fN q)⟩, Value.string ⟨List.toArray (fD q)⟩])) (by simp [results, Tryz.results65, go_sem, d0, d1]) rfl ?_
  exact ⟨rfl, below_set2 hb (Nat.le_refl _) _ _⟩
set_option maxHeartbeats 1000000 in
set_option maxRecDepth 100000 in
theorem mrFrac {y u : Int} {q : Rat} (hy : (canon y).length ≤ 3800) (hu : (canon u).length ≤ 3800) (h0 : u ≠ 0) (eq : Rat.divInt y u = q) : Ret 88 #[.string ⟨(canon y).toArray⟩, .string ⟨(canon u).toArray⟩] (Value.agg #[Value.string ⟨List.toArray (fN q)⟩, Value.string ⟨List.toArray (fD q)⟩]) := fun w hG => by
  have C1 := Lib.hid (sNew1 (l := canon y) (l' := canon u) hy hu (by rw [val_canon]; exact h0) (show fv _ _ = q by unfold fv; rw [val_canon, val_canon]; unfold den1; rw [if_neg h0]; exact eq))
  generalize canon y = Y at *
  generalize canon u = U at *
  have x3 := FBox.new w (.string ⟨#[]⟩) (.string ⟨#[]⟩) 30
  have hb := below_alloc w (.cells #[.string ⟨#[]⟩, .string ⟨#[]⟩] 30)
  clear hy hu h0 eq
  go_enter Tryz.func88, Tryz.ntmps88
  go_wp2_with fail
  ((with_reducible refine (C1.out.of hG hb).mono ?_); rintro e w2 ⟨rfl, hb2⟩)
  have x4 := FBox.new w2 (.string ⟨(fN q).toArray⟩) (.string ⟨(fD q).toArray⟩) 30
  have hbA := below_alloc w2 (.cells #[.string ⟨(fN q).toArray⟩, .string ⟨(fD q).toArray⟩] 30)
  replace x3 := (x3.below hb2).below hbA
  replace hb := bto hb (bto hb2 hbA)
  have g0 := x3.c0
  have g1 := x3.c1
  have g2 := x3.f0
  have g3 := x3.f1
  have p0 := x4.c0
  have p1 := x4.c1
  clear hb2 hbA
  go_wp2
  have hy := x3.set (.string ⟨(fN q).toArray⟩) (.string ⟨(fD q).toArray⟩)
  have d0 := hy.c0
  have d1 := hy.c1
  refine bodyPost_ret (v := (Value.agg #[Value.string ⟨List.toArray (fN q)⟩, Value.string ⟨List.toArray (fD q)⟩])) (by simp [results, Tryz.results88, go_sem, d0, d1]) rfl ?_
  exact ⟨rfl, below_set2 hb (Nat.le_refl _) _ _⟩
theorem mwMiddle {a b z : Int} {N : Nat} (hN : N ≤ 100000) (hla : (canon a).length ≤ N) (hlb : (canon b).length ≤ N) (e : divZ (a + b) 2 = z) : Ret 121 #[.string ⟨(canon a).toArray⟩, .string ⟨(canon b).toArray⟩] (.string ⟨(canon z).toArray⟩) := fun w hG => by
  have hl : (canon (a + b)).length ≤ N + 2 := by
    have h1 := val_lt_of hla
    have h2 := val_lt_of hlb
    rw [val_canon] at h1 h2
    refine Nat.le_trans (canon_len_le (a + b) (N + 1) ?_) (by omega)
    have e3 : 10 ^ (N + 1) = 10 ^ N * 10 := Nat.pow_succ ..
    generalize 10 ^ (N + 1) = X at *
    generalize 10 ^ N = Y at *
    omega
  have C1 := Lib.hid (riAdd (l := canon a) (l' := canon b) (by omega) (by omega) (show _ = a + b by rw [val_canon, val_canon]))
  have C2 := Lib.hid (niDiv (l := canon (a + b)) (l' := [50]) (by omega) (by decide) (by decide) (show divZ _ (val [50]) = z by rw [val_canon]; exact e) rfl)
  have hb := Below.refl w.heap.size w
  generalize canon (a + b) = T at *
  generalize canon a = X at *
  generalize canon b = Y at *
  generalize canon z = U at *
  generalize modZ (val T) (val [50]) = r at *
  clear hl hla hlb e
  go_enter Tryz.func121, Tryz.ntmps121
  go_wp2_with fail
  ((with_reducible refine (C1.out.of hG hb).mono ?_); rintro e w2 ⟨rfl, hb2⟩)
  replace hb := bto hb hb2
  clear hb2
  go_wp2_with fail
  ((with_reducible refine (C2.out.of hG hb).mono ?_); rintro e w3 ⟨rfl, hb3⟩)
  go_wp2
  go_ret
  exact ⟨rfl, bto hb hb3⟩
set_option maxHeartbeats 2000000 in
set_option maxRecDepth 100000 in
theorem mwIs {A : Option Addr} {ps : List Pay} {n : Nat} {s y u : Int} {Qb : Bool} (c b2 b8 b11 bu : Nat) (w : World) (hG : Glob w) (h : PL w A ps n) (hs : s = 1 ∨ s = -1) (hV : ValAt ps (Rat.divInt y u)) (hy : (canon y).length ≤ 1000000) (hu : (canon u).length ≤ 1000000) (h0 : u ≠ 0)
    (x1 : Blk w b2 #[.slice A n c]) (x2 : Blk w b8 #[.int .i64 s]) (x3 : Blk w b11 #[.func (Fn.func 65) #[] #[.pointer (some ⟨bu, 0, none⟩)]]) (x4 : Blk w bu #[.string ⟨(canon u).toArray⟩]) (hQ : decide (placeQ s (pzs ps) (Rat.divInt y u) ≤ 0) = Qb) :
    RetB w 67 #[.string ⟨(canon y).toArray⟩, .pointer (some ⟨b2, 0, none⟩), .pointer (some ⟨b8, 0, none⟩), .pointer (some ⟨b11, 0, none⟩)] (.bool Qb) := fun w' hbw => by
  replace hG := hG.below hbw
  replace h := h.below hbw
  replace x1 := x1.below hbw
  replace x2 := x2.below hbw
  replace x3 := x3.below hbw
  replace x4 := x4.below hbw
  have C1 : Hid (∀ w, Below w'.heap.size w' w → Calls Tryz.prog 65 #[.string ⟨(canon y).toArray⟩, .pointer (some ⟨bu, 0, none⟩)] w fun e w2 => e = .returned (Value.agg #[Value.string ⟨List.toArray (fN (Rat.divInt y u))⟩, Value.string ⟨List.toArray (fD (Rat.divInt y u))⟩]) ∧ Below w.heap.size w w2) := fun w hw => mwAt y u bu w (hG.below hw) hy hu h0 (x4.below hw)
  have C2 := Lib.hid (mwPlace hG h hs (fun _ => hV) c)
  have HQ := Lib.hid hQ
  generalize placeQ s (pzs ps) (Rat.divInt y u) = P at *
  generalize Rat.divInt y u = q at *
  generalize canon y = Y at *
  clear hbw hV hy hu h0 hs h hQ
  go_enter Tryz.func67, Tryz.ntmps67
  go_wp2_with fail
  refine wp_region_kept (by kernel_rfl) (by kernel_rfl) ?_
  refine kept_val _ (fun _ => rfl) (fun ρ w hw => by have q0 : w.cell? ⟨b2, 0, none⟩ = some (.slice A n c) := (x1.below hw).c 0; go_simp; first | done | with_reducible rfl) ?_
  simp only [Act.put, List.setIfInBounds_toArray, List.set_cons_zero, List.set_cons_succ, Nat.reduceAdd]
  refine kept_val _ (fun _ => rfl) (fun ρ w hw => by have q0 : w.cell? ⟨b8, 0, none⟩ = some (.int .i64 s) := (x2.below hw).c 0; go_simp; first | done | with_reducible rfl) ?_
  simp only [Act.put, List.setIfInBounds_toArray, List.set_cons_zero, List.set_cons_succ, Nat.reduceAdd]
  refine kept_val _ (fun _ => rfl) (fun ρ w hw => by have q0 : w.cell? ⟨b11, 0, none⟩ = some (.func (Fn.func 65) #[] #[.pointer (some ⟨bu, 0, none⟩)]) := (x3.below hw).c 0; go_simp; first | done | with_reducible rfl) ?_
  simp only [Act.put, List.setIfInBounds_toArray, List.set_cons_zero, List.set_cons_succ, Nat.reduceAdd]
  refine kept_val _ (fun _ => rfl) (fun ρ w hw => by go_simp; first | done | with_reducible rfl) ?_
  simp only [Act.put, List.setIfInBounds_toArray, List.set_cons_zero, List.set_cons_succ, Nat.reduceAdd]
  refine kept_call _ _ _ (fun _ => rfl) (fun ρ w hw => by go_simp; first | done | with_reducible rfl) (fun w hw => C1.out w hw) ?_
  simp only [Act.put, List.setIfInBounds_toArray, List.set_cons_zero, List.set_cons_succ, Nat.reduceAdd]
  refine kept_call _ _ _ (fun _ => rfl) (fun ρ w hw => by go_simp; first | done | with_reducible rfl) (fun w hw => C2.out w hw) ?_
  simp only [Act.put, List.setIfInBounds_toArray, List.set_cons_zero, List.set_cons_succ, Nat.reduceAdd]
  refine kept_val _ (fun _ => rfl) (fun ρ w hw => by go_simp; first | done | with_reducible rfl) ?_
  simp only [Act.put, List.setIfInBounds_toArray, List.set_cons_zero, List.set_cons_succ, Nat.reduceAdd]
  refine kept_val _ (fun _ => rfl) (fun ρ w hw => by go_simp; first | done | with_reducible rfl) ?_
  simp only [Act.put, List.setIfInBounds_toArray, List.set_cons_zero, List.set_cons_succ, Nat.reduceAdd]
  refine kept_end (fun ρ w2 hF => ?_)
  have hb := hF.below
  clear hF
  go_wp2
  go_ret
  exact ⟨retb HQ.out, hb⟩
/-- the number in a string -/
def strZ : Value → Int
  | .string s => val s.data.toList
  | _ => 0
theorem strZ_canon (z : Int) : strZ (.string ⟨(canon z).toArray⟩) = z := by show val (canon z).toArray.toList = z; rw [List.toList_toArray]; exact val_canon z
theorem len_of {z : Int} {N : Nat} (h : z.natAbs < 10 ^ N) (hN : N ≤ 9000) : (canon z).length ≤ 9001 := Nat.le_trans (canon_len_le _ _ h) (by omega)
set_option maxHeartbeats 4000000 in
set_option maxRecDepth 100000 in
theorem mwGreatest (b2 b8 b11 : Nat) (Qb : Int → Bool) (z : Int) (N : Nat) (w : World) (hG : Glob w) (hz : 0 ≤ z) (hN : N ≤ 9000) (hzl : (2 * z + 2).natAbs < 10 ^ N) (hQ : ∀ y, 1 ≤ y → (Qb y = true ↔ y ≤ z))
    (hC : ∀ y, 1 ≤ y → y ≤ 2 * z + 2 → RetB w 67 #[.string ⟨(canon y).toArray⟩, .pointer (some ⟨b2, 0, none⟩), .pointer (some ⟨b8, 0, none⟩), .pointer (some ⟨b11, 0, none⟩)] (.bool (Qb y))) :
    Calls Tryz.prog 66 #[.func (Fn.func 67) #[] #[.pointer (some ⟨b2, 0, none⟩), .pointer (some ⟨b8, 0, none⟩), .pointer (some ⟨b11, 0, none⟩)]] w fun e w' => e = .returned (.string ⟨(canon z).toArray⟩) ∧ Below w.heap.size w w' := by
  have c0 := riOf 0 (by decide) (by decide)
  have C0 := Lib.hid c0
  have C1 := Lib.hid (riOf 1 (by decide) (by decide))
  have HLn : Hid (∀ y, 0 ≤ y → y ≤ 2 * z + 2 → (canon y).length ≤ 9001) := fun y h1 h2 => len_of (N := N) (by omega) hN
  have HQ := Lib.hid hQ
  have HC := Lib.hid hC
  have hb := Below.refl w.heap.size w
  clear c0 hQ hC hzl hN
  go_enter Tryz.func66, Tryz.ntmps66
  go_wp2_with fail
  ((with_reducible refine (C0.out.of hG hb).mono ?_); rintro e w2 ⟨rfl, hb2⟩)
  replace hb := bto hb hb2
  clear hb2
  go_wp2_with fail
  ((with_reducible refine (C1.out.of hG hb).mono ?_); rintro e w3 ⟨rfl, hb3⟩)
  replace hb := bto hb hb3
  clear hb3 C0 C1
  go_wp2_with fail
  go_loopw [3, 4] (fun lv hv wr => ∃ lo hi : Int, 0 ≤ lo ∧ lo ≤ z ∧ lo < hi ∧ 1 ≤ hi ∧ hi ≤ 2 * z + 1 ∧ lv = .string ⟨(canon lo).toArray⟩ ∧ hv = .string ⟨(canon hi).toArray⟩ ∧ Below w.heap.size w wr) (fun _ hv _ => (z + 1 - strZ hv).toNat)
  case atStart => exact ⟨0, 1, Int.le_refl _, hz, by omega, by omega, by omega, rfl, rfl, hb⟩
  case round =>
    clear hb
    obtain ⟨lo, hi, h1, h2, h3, h4, h5, rfl, rfl, hb⟩ := hrel
    have C1 := Lib.hid (HC.out hi h4 (by omega))
    by_cases g : hi ≤ z
    · rw [(HQ.out hi h4).2 g] at C1
      have C2 := Lib.hid (riAdd (l := canon hi) (l' := canon hi) (by have := HLn.out hi (by omega) (by omega); omega) (by have := HLn.out hi (by omega) (by omega); omega) (show _ = hi + hi by rw [val_canon]))
      have hm : (z + 1 - strZ (.string ⟨(canon (hi + hi)).toArray⟩)).toNat < (z + 1 - strZ (.string ⟨(canon hi).toArray⟩)).toNat := by rw [strZ_canon, strZ_canon]; omega
      have HM := Lib.hid hm
      clear hm
      go_wp2_with fail
      ((with_reducible refine (C1.out.of hG hb).mono ?_); rintro e w4 ⟨rfl, hb4⟩)
      replace hb := bto hb hb4
      clear hb4 C1
      go_wp2_with fail
      ((with_reducible refine (C2.out.of hG hb).mono ?_); rintro e w5 ⟨rfl, hb5⟩)
      replace hb := bto hb hb5
      clear hb5 C2
      go_wp2
      go_roundw
      case rel => exact ⟨hi, hi + hi, by omega, g, by omega, by omega, by omega, rfl, rfl, hb⟩
      case measure => exact HM.out
    have hq : Qb hi = false := by
      cases hq : Qb hi with
      | false => rfl
      | true => exact absurd ((HQ.out hi h4).1 hq) g
    rw [hq] at C1
    clear hq
    go_wp2_with fail
    ((with_reducible refine (C1.out.of hG hb).mono ?_); rintro e w4 ⟨rfl, hb4⟩)
    replace hb := bto hb hb4
    clear hb4 C1
    go_wp2_with fail
    go_loopw [3, 4] (fun lv hv wr => ∃ lo hi : Int, 0 ≤ lo ∧ lo ≤ z ∧ z < hi ∧ hi ≤ 2 * z + 1 ∧ lv = .string ⟨(canon lo).toArray⟩ ∧ hv = .string ⟨(canon hi).toArray⟩ ∧ Below w.heap.size w wr) (fun lv hv _ => (strZ hv - strZ lv).toNat)
    case atStart => exact ⟨lo, hi, h1, h2, by omega, h5, rfl, rfl, hb⟩
    case round =>
      clear hb h1 h2 h3 h4 h5 g
      obtain ⟨lo, hi, h1, h2, h3, h5, rfl, rfl, hb⟩ := hrel
      have hl1 := HLn.out lo h1 (by omega)
      have hl2 := HLn.out hi (by omega) (by omega)
      have C1 := Lib.hid (niSub (l := canon hi) (l' := canon lo) (by omega) (by omega) (show _ = hi - lo by rw [val_canon, val_canon]))
      by_cases g : hi - lo = 1
      · obtain rfl : lo = z := by omega
        rw [g, show canon 1 = [49] by decide +kernel] at C1
        go_wp2_with fail
        ((with_reducible refine (C1.out.of hG hb).mono ?_); rintro e w5 ⟨rfl, hb5⟩)
        go_wp2
        go_ret
        exact ⟨rfl, bto hb hb5⟩
      have hne : canon (hi - lo) ≠ [49] := fun h => g (by rw [← val_canon (hi - lo), h]; rfl)
      obtain ⟨L, hL⟩ : ∃ L, L = canon (hi - lo) := ⟨_, rfl⟩
      rw [← hL] at C1 hne
      have e1 : (L == [49]) = false := by rw [beq_eq_false_iff_ne]; exact hne
      have e2 : (L != [49]) = true := by rw [bne, e1]; rfl
      have C2 := Lib.hid (mwMiddle (a := lo) (b := hi) (N := 9001) (by omega) (by omega) (by omega) rfl)
      obtain ⟨k1, k2⟩ := mid_lt (a := lo) (b := hi) (by omega)
      generalize divZ (lo + hi) 2 = m at *
      have C3 := Lib.hid (HC.out m (by omega) (by omega))
      have hm1 : (strZ (.string ⟨(canon hi).toArray⟩) - strZ (.string ⟨(canon m).toArray⟩)).toNat < (strZ (.string ⟨(canon hi).toArray⟩) - strZ (.string ⟨(canon lo).toArray⟩)).toNat := by rw [strZ_canon, strZ_canon, strZ_canon]; omega
      have hm2 : (strZ (.string ⟨(canon m).toArray⟩) - strZ (.string ⟨(canon lo).toArray⟩)).toNat < (strZ (.string ⟨(canon hi).toArray⟩) - strZ (.string ⟨(canon lo).toArray⟩)).toNat := by rw [strZ_canon, strZ_canon, strZ_canon]; omega
      have HM1 := Lib.hid hm1
      have HM2 := Lib.hid hm2
      clear hm1 hm2 hL hne g hl1 hl2
      by_cases gm : m ≤ z
      · rw [(HQ.out m (by omega)).2 gm] at C3
        go_wp2_with fail
        ((with_reducible refine (C1.out.of hG hb).mono ?_); rintro e w5 ⟨rfl, hb5⟩)
        replace hb := bto hb hb5
        clear hb5 C1
        go_wp2_with fail
        ((with_reducible refine (C2.out.of hG hb).mono ?_); rintro e w6 ⟨rfl, hb6⟩)
        replace hb := bto hb hb6
        clear hb6 C2
        go_wp2_with fail
        ((with_reducible refine (C3.out.of hG hb).mono ?_); rintro e w7 ⟨rfl, hb7⟩)
        replace hb := bto hb hb7
        clear hb7 C3
        go_wp2
        go_roundw
        case rel => exact ⟨m, hi, by omega, gm, h3, h5, rfl, rfl, hb⟩
        case measure => exact HM1.out
      have hq : Qb m = false := by
        cases hq : Qb m with
        | false => rfl
        | true => exact absurd ((HQ.out m (by omega)).1 hq) gm
      rw [hq] at C3
      clear hq
      go_wp2_with fail
      ((with_reducible refine (C1.out.of hG hb).mono ?_); rintro e w5 ⟨rfl, hb5⟩)
      replace hb := bto hb hb5
      clear hb5 C1
      go_wp2_with fail
      ((with_reducible refine (C2.out.of hG hb).mono ?_); rintro e w6 ⟨rfl, hb6⟩)
      replace hb := bto hb hb6
      clear hb6 C2
      go_wp2_with fail
      ((with_reducible refine (C3.out.of hG hb).mono ?_); rintro e w7 ⟨rfl, hb7⟩)
      replace hb := bto hb hb7
      clear hb7 C3
      go_wp2
      go_roundw
      case rel => exact ⟨lo, m, h1, h2, by omega, by omega, rfl, rfl, hb⟩
      case measure => exact HM2.out
end Go.Proofs.YtolbojchdlojnaaGreatDoor
