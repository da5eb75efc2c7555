/- InstrumentChecks. -/
import Derived.Test.YtdbmjbcgcajojaaGreatDoorIj
namespace Go.Proofs.YtdbmjbcgcajojaaGreatDoor
open Go.RowKit Num
/-- Great, of a slice of one instrument that was just made -/
theorem great_one_checks_law (w : World) (x : Ins) (t : TypeId) (b : Nat) (hbz : w.heap.size = b) : Calls Tryz.prog 44 #[.slice (some ⟨b, 0, none⟩) 1 1] (w.alloc (.cells #[Value.string ⟨List.toArray x.id⟩, Value.int .i64 x.kind, Value.string ⟨List.toArray x.cur⟩, Value.int .i64 x.places, Value.int .i64 x.issued, Value.int .i64 x.matures, Value.string ⟨List.toArray x.fn⟩, Value.string ⟨List.toArray x.fd⟩, Value.string ⟨List.toArray x.cn⟩, Value.string ⟨List.toArray x.cd⟩, Value.int .i64 x.months, Value.int .i64 x.count, Value.string ⟨List.toArray x.other⟩, Value.string ⟨List.toArray x.sn⟩, Value.string ⟨List.toArray x.sd⟩] t)) fun e w' => ((e = .returned (.bool true)) ∨ (e = .returned (.bool false) ∧ x.Small)) ∧ Below w.heap.size w w' := by
  subst hbz
  have h := jGreat (some ⟨w.heap.size, 0, none⟩) [x] 1 (w.alloc (.cells #[Value.string ⟨List.toArray x.id⟩, Value.int .i64 x.kind, Value.string ⟨List.toArray x.cur⟩, Value.int .i64 x.places, Value.int .i64 x.issued, Value.int .i64 x.matures, Value.string ⟨List.toArray x.fn⟩, Value.string ⟨List.toArray x.fd⟩, Value.string ⟨List.toArray x.cn⟩, Value.string ⟨List.toArray x.cd⟩, Value.int .i64 x.months, Value.int .i64 x.count, Value.string ⟨List.toArray x.other⟩, Value.string ⟨List.toArray x.sn⟩, Value.string ⟨List.toArray x.sd⟩] t)) (by simp) (fun i y hy => by
    cases i with
    | zero =>
      obtain rfl : x = y := by simpa using hy
      exact ⟨w.heap.size, 0, rfl, by simp, (IBox.new w x t).cells⟩
    | succ i => simp at hy)
  refine h.mono fun e w' ⟨h1, h2⟩ => ⟨?_, bto (below_alloc _ _) h2⟩
  rcases h1 with h1 | ⟨h1, h3, -⟩
  · exact .inl h1
  · exact .inr ⟨h1, h3 x (by simp)⟩
set_option maxHeartbeats 4000000 in
set_option maxRecDepth 100000 in
theorem checks_law (x : Ins) (s : List UInt8) (d k : Int) (w : World) (hG : Glob w) :
    Calls Tryz.prog 8 #[(Value.agg #[Value.string ⟨List.toArray x.id⟩, Value.int .i64 x.kind, Value.string ⟨List.toArray x.cur⟩, Value.int .i64 x.places, Value.int .i64 x.issued, Value.int .i64 x.matures, Value.string ⟨List.toArray x.fn⟩, Value.string ⟨List.toArray x.fd⟩, Value.string ⟨List.toArray x.cn⟩, Value.string ⟨List.toArray x.cd⟩, Value.int .i64 x.months, Value.int .i64 x.count, Value.string ⟨List.toArray x.other⟩, Value.string ⟨List.toArray x.sn⟩, Value.string ⟨List.toArray x.sd⟩]), .string ⟨s.toArray⟩, .int .i64 d, .int .i64 k] w fun e w' => e = .returned (.bool true) ∧ Below w.heap.size w w' := by
  have CW := Lib.hid rAwake10
  have x4 := IBox.new w x 47
  have hb := below_alloc w (.cells #[Value.string ⟨List.toArray x.id⟩, Value.int .i64 x.kind, Value.string ⟨List.toArray x.cur⟩, Value.int .i64 x.places, Value.int .i64 x.issued, Value.int .i64 x.matures, Value.string ⟨List.toArray x.fn⟩, Value.string ⟨List.toArray x.fd⟩, Value.string ⟨List.toArray x.cn⟩, Value.string ⟨List.toArray x.cd⟩, Value.int .i64 x.months, Value.int .i64 x.count, Value.string ⟨List.toArray x.other⟩, Value.string ⟨List.toArray x.sn⟩, Value.string ⟨List.toArray x.sd⟩] 47)
  have HGr := Lib.hid (great_one_checks_law (w.alloc (.cells #[Value.string ⟨List.toArray x.id⟩, Value.int .i64 x.kind, Value.string ⟨List.toArray x.cur⟩, Value.int .i64 x.places, Value.int .i64 x.issued, Value.int .i64 x.matures, Value.string ⟨List.toArray x.fn⟩, Value.string ⟨List.toArray x.fd⟩, Value.string ⟨List.toArray x.cn⟩, Value.string ⟨List.toArray x.cd⟩, Value.int .i64 x.months, Value.int .i64 x.count, Value.string ⟨List.toArray x.other⟩, Value.string ⟨List.toArray x.sn⟩, Value.string ⟨List.toArray x.sd⟩] 47)) x 47 _ (World.size_alloc _ _))
  go_enter Tryz.func8, Tryz.ntmps8
  go_wp2_with fail
  ((with_reducible refine HGr.out.mono ?_); rintro e w1 ⟨hres, hb1⟩)
  replace x4 := x4.below hb1
  replace hb := bto hb hb1
  clear HGr hb1
  rcases hres with rfl | ⟨rfl, hx⟩
  · go_wp2_with fail
    ((with_reducible refine (CW.out.of hG hb).mono ?_); rintro e w2 ⟨rfl, hb2⟩)
    go_wp2
    go_ret
    exact ⟨rfl, bto hb hb2⟩
  by_cases hs : 100 < s.length
  · have e1 : decide (100 < s.length) = true := decide_eq_true hs
    go_wp2_with fail
    ((with_reducible refine (CW.out.of hG hb).mono ?_); rintro e w2 ⟨rfl, hb2⟩)
    replace x4 := x4.below hb2
    replace hb := bto hb hb2
    clear hb2
    go_wp2
    go_ret
    exact ⟨rfl, hb⟩
  have e1 : decide (100 < s.length) = false := decide_eq_false hs
  have c1 := iState x hx d
  have c2 := jState x hx d
  have c3 := iKind k
  have c4 := jKind k
  have c5 := iParseKind s
  have c6 := jParseKind s
  have c7 := iName (l := s) (by omega)
  have c8 := jName (l := s) (by omega)
  have c9 := iCheck x hx
  have c10 := jCheck x hx
  have cW := CW.out
  generalize (stE x d).1 = v1 at *
  generalize (stE x d).2 = v2 at *
  generalize (kindS k).1 = v3 at *
  generalize (kindS k).2 = v4 at *
  generalize (parseK s).1 = v5 at *
  generalize (parseK s).2 = v6 at *
  generalize nameB s = v7 at *
  generalize chkE x = v8 at *
  clear CW
  have qx4_0 := x4.c0
  have qx4_1 := x4.c1
  have qx4_2 := x4.c2
  have qx4_3 := x4.c3
  have qx4_4 := x4.c4
  have qx4_5 := x4.c5
  have qx4_6 := x4.c6
  have qx4_7 := x4.c7
  have qx4_8 := x4.c8
  have qx4_9 := x4.c9
  have qx4_10 := x4.c10
  have qx4_11 := x4.c11
  have qx4_12 := x4.c12
  have qx4_13 := x4.c13
  have qx4_14 := x4.c14
  go_wp2_with fail
  ((with_reducible refine (c1.of hG hb).mono ?_); rintro e w2 ⟨rfl, hb2⟩)
  clear qx4_0 qx4_1 qx4_2 qx4_3 qx4_4 qx4_5 qx4_6 qx4_7 qx4_8 qx4_9 qx4_10 qx4_11 qx4_12 qx4_13 qx4_14
  replace x4 := x4.below hb2
  replace hb := bto hb hb2
  clear hb2
  have qx4_0 := x4.c0
  have qx4_1 := x4.c1
  have qx4_2 := x4.c2
  have qx4_3 := x4.c3
  have qx4_4 := x4.c4
  have qx4_5 := x4.c5
  have qx4_6 := x4.c6
  have qx4_7 := x4.c7
  have qx4_8 := x4.c8
  have qx4_9 := x4.c9
  have qx4_10 := x4.c10
  have qx4_11 := x4.c11
  have qx4_12 := x4.c12
  have qx4_13 := x4.c13
  have qx4_14 := x4.c14
  go_wp2_with fail
  ((with_reducible refine (c2.of hG hb).mono ?_); rintro e w3 ⟨rfl, hb3⟩)
  clear qx4_0 qx4_1 qx4_2 qx4_3 qx4_4 qx4_5 qx4_6 qx4_7 qx4_8 qx4_9 qx4_10 qx4_11 qx4_12 qx4_13 qx4_14
  replace x4 := x4.below hb3
  replace hb := bto hb hb3
  clear hb3
  go_wp2_with fail
  ((with_reducible refine (c3.of hG hb).mono ?_); rintro e w4 ⟨rfl, hb4⟩)
  replace x4 := x4.below hb4
  replace hb := bto hb hb4
  clear hb4
  go_wp2_with fail
  ((with_reducible refine (c4.of hG hb).mono ?_); rintro e w5 ⟨rfl, hb5⟩)
  replace x4 := x4.below hb5
  replace hb := bto hb hb5
  clear hb5
  go_wp2_with fail
  ((with_reducible refine (c5.of hG hb).mono ?_); rintro e w6 ⟨rfl, hb6⟩)
  replace x4 := x4.below hb6
  replace hb := bto hb hb6
  clear hb6
  go_wp2_with fail
  ((with_reducible refine (c6.of hG hb).mono ?_); rintro e w7 ⟨rfl, hb7⟩)
  replace x4 := x4.below hb7
  replace hb := bto hb hb7
  clear hb7
  go_wp2_with fail
  refine wp_region_kept (by kernel_rfl) (by kernel_rfl) ?_
  refine kept_val _ (fun _ => rfl) (fun ρ w hw => by go_simp; first | done | with_reducible rfl) ?_
  simp only [Act.put, List.setIfInBounds_toArray, List.set_cons_zero, List.set_cons_succ, Nat.reduceAdd]
  refine kept_call _ _ _ (fun _ => rfl) (fun ρ w hw => by go_simp; first | done | with_reducible rfl) (fun w hw => c7.of hG (bto hb hw)) ?_
  simp only [Act.put, List.setIfInBounds_toArray, List.set_cons_zero, List.set_cons_succ, Nat.reduceAdd]
  refine kept_val _ (fun _ => rfl) (fun ρ w hw => by go_simp; first | done | with_reducible rfl) ?_
  simp only [Act.put, List.setIfInBounds_toArray, List.set_cons_zero, List.set_cons_succ, Nat.reduceAdd]
  refine kept_call _ _ _ (fun _ => rfl) (fun ρ w hw => by go_simp; first | done | with_reducible rfl) (fun w hw => c8.of hG (bto hb hw)) ?_
  simp only [Act.put, List.setIfInBounds_toArray, List.set_cons_zero, List.set_cons_succ, Nat.reduceAdd]
  refine kept_val _ (fun _ => rfl) (fun ρ w hw => by go_simp; first | done | with_reducible rfl) ?_
  simp only [Act.put, List.setIfInBounds_toArray, List.set_cons_zero, List.set_cons_succ, Nat.reduceAdd]
  refine kept_val _ (fun _ => rfl) (fun ρ w hw => by go_simp; first | done | with_reducible rfl) ?_
  simp only [Act.put, List.setIfInBounds_toArray, List.set_cons_zero, List.set_cons_succ, Nat.reduceAdd]
  refine kept_val _ (fun _ => rfl) (fun ρ w hw => by have q0 := (x4.below hw).c0; have q1 := (x4.below hw).c1; have q2 := (x4.below hw).c2; have q3 := (x4.below hw).c3; have q4 := (x4.below hw).c4; have q5 := (x4.below hw).c5; have q6 := (x4.below hw).c6; have q7 := (x4.below hw).c7; have q8 := (x4.below hw).c8; have q9 := (x4.below hw).c9; have q10 := (x4.below hw).c10; have q11 := (x4.below hw).c11; have q12 := (x4.below hw).c12; have q13 := (x4.below hw).c13; have q14 := (x4.below hw).c14; go_simp; first | done | with_reducible rfl) ?_
  simp only [Act.put, List.setIfInBounds_toArray, List.set_cons_zero, List.set_cons_succ, Nat.reduceAdd]
  refine kept_call _ _ _ (fun _ => rfl) (fun ρ w hw => by go_simp; first | done | with_reducible rfl) (fun w hw => c9.of hG (bto hb hw)) ?_
  simp only [Act.put, List.setIfInBounds_toArray, List.set_cons_zero, List.set_cons_succ, Nat.reduceAdd]
  refine kept_val _ (fun _ => rfl) (fun ρ w hw => by have q0 := (x4.below hw).c0; have q1 := (x4.below hw).c1; have q2 := (x4.below hw).c2; have q3 := (x4.below hw).c3; have q4 := (x4.below hw).c4; have q5 := (x4.below hw).c5; have q6 := (x4.below hw).c6; have q7 := (x4.below hw).c7; have q8 := (x4.below hw).c8; have q9 := (x4.below hw).c9; have q10 := (x4.below hw).c10; have q11 := (x4.below hw).c11; have q12 := (x4.below hw).c12; have q13 := (x4.below hw).c13; have q14 := (x4.below hw).c14; go_simp; first | done | with_reducible rfl) ?_
  simp only [Act.put, List.setIfInBounds_toArray, List.set_cons_zero, List.set_cons_succ, Nat.reduceAdd]
  refine kept_call _ _ _ (fun _ => rfl) (fun ρ w hw => by go_simp; first | done | with_reducible rfl) (fun w hw => c10.of hG (bto hb hw)) ?_
  simp only [Act.put, List.setIfInBounds_toArray, List.set_cons_zero, List.set_cons_succ, Nat.reduceAdd]
  refine kept_val _ (fun _ => rfl) (fun ρ w hw => by go_simp; first | done | with_reducible rfl) ?_
  simp only [Act.put, List.setIfInBounds_toArray, List.set_cons_zero, List.set_cons_succ, Nat.reduceAdd]
  refine kept_val _ (fun _ => rfl) (fun ρ w hw => by go_simp; first | done | with_reducible rfl) ?_
  simp only [Act.put, List.setIfInBounds_toArray, List.set_cons_zero, List.set_cons_succ, Nat.reduceAdd]
  refine kept_val _ (fun _ => rfl) (fun ρ w hw => by go_simp; first | done | with_reducible rfl) ?_
  simp only [Act.put, List.setIfInBounds_toArray, List.set_cons_zero, List.set_cons_succ, Nat.reduceAdd]
  refine kept_val _ (fun _ => rfl) (fun ρ w hw => by go_simp; first | done | with_reducible rfl) ?_
  simp only [Act.put, List.setIfInBounds_toArray, List.set_cons_zero, List.set_cons_succ, Nat.reduceAdd]
  refine kept_val _ (fun _ => rfl) (fun ρ w hw => by go_simp; first | done | with_reducible rfl) ?_
  simp only [Act.put, List.setIfInBounds_toArray, List.set_cons_zero, List.set_cons_succ, Nat.reduceAdd]
  refine kept_val _ (fun _ => rfl) (fun ρ w hw => by go_simp; first | done | with_reducible rfl) ?_
  simp only [Act.put, List.setIfInBounds_toArray, List.set_cons_zero, List.set_cons_succ, Nat.reduceAdd]
  refine kept_val _ (fun _ => rfl) (fun ρ w hw => by go_simp; first | done | with_reducible rfl) ?_
  simp only [Act.put, List.setIfInBounds_toArray, List.set_cons_zero, List.set_cons_succ, Nat.reduceAdd]
  refine kept_val _ (fun _ => rfl) (fun ρ w hw => by go_simp; first | done | with_reducible rfl) ?_
  simp only [Act.put, List.setIfInBounds_toArray, List.set_cons_zero, List.set_cons_succ, Nat.reduceAdd]
  refine kept_val _ (fun _ => rfl) (fun ρ w hw => by go_simp; first | done | with_reducible rfl) ?_
  simp only [Act.put, List.setIfInBounds_toArray, List.set_cons_zero, List.set_cons_succ, Nat.reduceAdd]
  refine kept_val _ (fun _ => rfl) (fun ρ w hw => by go_simp; first | done | with_reducible rfl) ?_
  simp only [Act.put, List.setIfInBounds_toArray, List.set_cons_zero, List.set_cons_succ, Nat.reduceAdd]
  refine kept_val _ (fun _ => rfl) (fun ρ w hw => by go_simp; first | done | with_reducible rfl) ?_
  simp only [Act.put, List.setIfInBounds_toArray, List.set_cons_zero, List.set_cons_succ, Nat.reduceAdd]
  refine kept_val _ (fun _ => rfl) (fun ρ w hw => by go_simp; first | done | with_reducible rfl) ?_
  simp only [Act.put, List.setIfInBounds_toArray, List.set_cons_zero, List.set_cons_succ, Nat.reduceAdd]
  refine kept_val _ (fun _ => rfl) (fun ρ w hw => by go_simp; first | done | with_reducible rfl) ?_
  simp only [Act.put, List.setIfInBounds_toArray, List.set_cons_zero, List.set_cons_succ, Nat.reduceAdd]
  refine kept_val _ (fun _ => rfl) (fun ρ w hw => by go_simp; first | done | with_reducible rfl) ?_
  simp only [Act.put, List.setIfInBounds_toArray, List.set_cons_zero, List.set_cons_succ, Nat.reduceAdd]
  refine kept_val _ (fun _ => rfl) (fun ρ w hw => by go_simp; first | done | with_reducible rfl) ?_
  simp only [Act.put, List.setIfInBounds_toArray, List.set_cons_zero, List.set_cons_succ, Nat.reduceAdd]
  refine kept_val _ (fun _ => rfl) (fun ρ w hw => by go_simp; first | done | with_reducible rfl) ?_
  simp only [Act.put, List.setIfInBounds_toArray, List.set_cons_zero, List.set_cons_succ, Nat.reduceAdd]
  refine kept_val _ (fun _ => rfl) (fun ρ w hw => by go_simp; first | done | with_reducible rfl) ?_
  simp only [Act.put, List.setIfInBounds_toArray, List.set_cons_zero, List.set_cons_succ, Nat.reduceAdd]
  refine kept_val _ (fun _ => rfl) (fun ρ w hw => by go_simp; first | done | with_reducible rfl) ?_
  simp only [Act.put, List.setIfInBounds_toArray, List.set_cons_zero, List.set_cons_succ, Nat.reduceAdd]
  refine kept_val _ (fun _ => rfl) (fun ρ w hw => by go_simp; first | done | with_reducible rfl) ?_
  simp only [Act.put, List.setIfInBounds_toArray, List.set_cons_zero, List.set_cons_succ, Nat.reduceAdd]
  refine kept_val _ (fun _ => rfl) (fun ρ w hw => by go_simp; first | done | with_reducible rfl) ?_
  simp only [Act.put, List.setIfInBounds_toArray, List.set_cons_zero, List.set_cons_succ, Nat.reduceAdd]
  refine kept_val _ (fun _ => rfl) (fun ρ w hw => by go_simp; first | done | with_reducible rfl) ?_
  simp only [Act.put, List.setIfInBounds_toArray, List.set_cons_zero, List.set_cons_succ, Nat.reduceAdd]
  refine kept_val _ (fun _ => rfl) (fun ρ w hw => by go_simp; first | done | with_reducible rfl) ?_
  simp only [Act.put, List.setIfInBounds_toArray, List.set_cons_zero, List.set_cons_succ, Nat.reduceAdd]
  refine kept_val _ (fun _ => rfl) (fun ρ w hw => by go_simp; first | done | with_reducible rfl) ?_
  simp only [Act.put, List.setIfInBounds_toArray, List.set_cons_zero, List.set_cons_succ, Nat.reduceAdd]
  refine kept_val _ (fun _ => rfl) (fun ρ w hw => by go_simp; first | done | with_reducible rfl) ?_
  simp only [Act.put, List.setIfInBounds_toArray, List.set_cons_zero, List.set_cons_succ, Nat.reduceAdd]
  refine kept_val _ (fun _ => rfl) (fun ρ w hw => by go_simp; first | done | with_reducible rfl) ?_
  simp only [Act.put, List.setIfInBounds_toArray, List.set_cons_zero, List.set_cons_succ, Nat.reduceAdd]
  refine kept_val _ (fun _ => rfl) (fun ρ w hw => by go_simp; first | done | with_reducible rfl) ?_
  simp only [Act.put, List.setIfInBounds_toArray, List.set_cons_zero, List.set_cons_succ, Nat.reduceAdd]
  refine kept_val _ (fun _ => rfl) (fun ρ w hw => by go_simp; first | done | with_reducible rfl) ?_
  simp only [Act.put, List.setIfInBounds_toArray, List.set_cons_zero, List.set_cons_succ, Nat.reduceAdd]
  refine kept_val _ (fun _ => rfl) (fun ρ w hw => by go_simp; first | done | with_reducible rfl) ?_
  simp only [Act.put, List.setIfInBounds_toArray, List.set_cons_zero, List.set_cons_succ, Nat.reduceAdd]
  refine kept_val _ (fun _ => rfl) (fun ρ w hw => by go_simp; first | done | with_reducible rfl) ?_
  simp only [Act.put, List.setIfInBounds_toArray, List.set_cons_zero, List.set_cons_succ, Nat.reduceAdd]
  refine kept_val _ (fun _ => rfl) (fun ρ w hw => by go_simp; first | done | with_reducible rfl) ?_
  simp only [Act.put, List.setIfInBounds_toArray, List.set_cons_zero, List.set_cons_succ, Nat.reduceAdd]
  refine kept_val _ (fun _ => rfl) (fun ρ w hw => by go_simp; first | done | with_reducible rfl) ?_
  simp only [Act.put, List.setIfInBounds_toArray, List.set_cons_zero, List.set_cons_succ, Nat.reduceAdd]
  refine kept_val _ (fun _ => rfl) (fun ρ w hw => by go_simp; first | done | with_reducible rfl) ?_
  simp only [Act.put, List.setIfInBounds_toArray, List.set_cons_zero, List.set_cons_succ, Nat.reduceAdd]
  refine kept_val _ (fun _ => rfl) (fun ρ w hw => by go_simp; first | done | with_reducible rfl) ?_
  simp only [Act.put, List.setIfInBounds_toArray, List.set_cons_zero, List.set_cons_succ, Nat.reduceAdd]
  refine kept_call _ _ _ (fun _ => rfl) (fun ρ w hw => by go_simp; first | done | with_reducible rfl) (fun w hw => cW.of hG (bto hb hw)) ?_
  simp only [Act.put, List.setIfInBounds_toArray, List.set_cons_zero, List.set_cons_succ, Nat.reduceAdd]
  refine kept_val _ (fun _ => rfl) (fun ρ w hw => by go_simp; first | done | with_reducible rfl) ?_
  simp only [Act.put, List.setIfInBounds_toArray, List.set_cons_zero, List.set_cons_succ, Nat.reduceAdd]
  refine kept_val _ (fun _ => rfl) (fun ρ w hw => by go_simp; first | done | with_reducible rfl) ?_
  simp only [Act.put, List.setIfInBounds_toArray, List.set_cons_zero, List.set_cons_succ, Nat.reduceAdd]
  refine kept_end (fun ρ w8 hF => ?_)
  replace x4 := x4.below hF.below
  replace hb := bto hb hF.below
  clear hF
  go_wp2
  go_ret
  exact ⟨rfl, hb⟩
end Go.Proofs.YtdbmjbcgcajojaaGreatDoor
