/- Texts put together: Vk Vl Vm Opi. -/
import Derived.Test.YtgnppdkeiihlfaaGreatDoorG7
import Derived.Laws.StructEq
import Derived.OpenShut
import Derived.Lib.SmallJoins
import Derived.ChangeSame
namespace Go.Proofs.YtgnppdkeiihlfaaGreatDoor
open Go.RowKit Num
theorem jPutG {A : Option Addr} {xs zs : List Mon} {m : Mon} {n c k L : Nat} {w : World} (hG : Glob w) (h : BG xs k L) (hk : k ≤ 90) (hx : AtM w A xs n c) (hm : codeB m.cur = true) (hg : m.amt = canon (val m.amt)) (hl : m.amt.length ≤ 100) (hz : putL xs m = zs) (h1 : xs.length ≤ 16) (h3 : zs.length ≤ 16) :
  Calls Tryz.prog 92 #[.slice A n c, .agg #[.string ⟨m.cur.toArray⟩, .string ⟨m.amt.toArray⟩]] w (BagEnd zs w) := by
 refine (jPut A xs n c m w hG (h.ml hk h1 hx) (by rw [codeB_len hm]; decide) (by omega)).mono (fun e w' hE => bag_end hE ?_ ?_)
 ·unfold putV; rw [if_neg (fun g => g (h.ok h1)), if_neg (fun g => g hm), if_neg (fun g => g hg)]; unfold smR; rw [show smL xs [m] = zs from hz, if_neg (by omega)]
 ·unfold putV; rw [if_neg (fun g => g (h.ok h1)), if_neg (fun g => g hm), if_neg (fun g => g hg)]; unfold smE; rw [show smL xs [m] = zs from hz, if_neg (by omega)]
theorem pres_eq (r i y : Fp2) : presB r i y = (decide (fv r.1 r.2 < 0) || decide (fv y.1 y.2 < 0) || !([(fN (upQ i y), fD (upQ i y))].all posB)) := by
 unfold presB posB
 simp only [List.all_cons, List.all_nil, fv_frac, le_pos, Bool.and_true]
theorem ok_no1 {x : Ins} {q : List UInt8} (h : ¬ fkE x = 0) : okB x q = false := by unfold okB; rw [decide_eq_false h]; rfl
theorem ok_no2 {x : Ins} {q : List UInt8} (h : ¬ q = canon (val q)) : okB x q = false := by unfold okB; rw [decide_eq_false h, Bool.and_false]
set_option maxHeartbeats 8000000 in
set_option maxRecDepth 100000 in
theorem jPresent (x : Ins) (hx : x.Small) (ht : x.Tiny) (q : List UInt8) (hq : q.length ≤ 20) (r i y : Fp2) (hr : r.1.length ≤ 20 ∧ r.2.length ≤ 20) (hi : i.1.length ≤ 20 ∧ i.2.length ≤ 20) (hy : y.1.length ≤ 20 ∧ y.2.length ≤ 20) : Ret 33 #[(Value.agg #[Value.string ⟨List.toArray x.id⟩, Value.int .i64 x.kind, Value.string ⟨List.toArray x.cur⟩, Value.int .i64 x.places, Value.int .i64 x.issued, Value.int .i64 x.matures, Value.string ⟨List.toArray x.fn⟩, Value.string ⟨List.toArray x.fd⟩, Value.string ⟨List.toArray x.cn⟩, Value.string ⟨List.toArray x.cd⟩, Value.int .i64 x.months, Value.int .i64 x.count, Value.string ⟨List.toArray x.other⟩, Value.string ⟨List.toArray x.sn⟩, Value.string ⟨List.toArray x.sd⟩]), .string ⟨q.toArray⟩, (Value.agg #[Value.string ⟨List.toArray (r.1)⟩, Value.string ⟨List.toArray (r.2)⟩]), (Value.agg #[Value.string ⟨List.toArray (i.1)⟩, Value.string ⟨List.toArray (i.2)⟩]), (Value.agg #[Value.string ⟨List.toArray (y.1)⟩, Value.string ⟨List.toArray (y.2)⟩])] (.tuple #[.string ⟨(presV x q r i y).1.toArray⟩, .int .i64 (presV x q r i y).2]) := fun w hG => by
 have i_r := isj_p hr (by decide)
 have i_i := isj_p hi (by decide)
 have i_y := isj_p hy (by decide)
 have bu : Bd 42 (upQ i y) := bd_up hi hy (by decide) (by decide)
 have lu := bd_len bu
 have bs : Bd 20 (stk x) := bd_of (r := (x.sn, x.sd)) ht (by decide)
 have bg : Bd 61 (qZ q * (fv r.1 r.2 - stk x)) := bd_mul (bd_q hq (by decide)) (bd_sub (bd_of hr (by decide)) bs)
 have bz : Bd 103 (qZ q * (fv r.1 r.2 - stk x) / upQ i y) := bd_div bg bu (by decide)
 have CK := Lib.hid (jFk x hx)
 have CI := Lib.hid (qCheck (l := q) (by omega) (c := if q = canon (val q) then 0 else 1) rfl)
 have CC := Lib.hid (fun (w' : World) (b : Nat) (hb : Below w.heap.size w w') (h : FrAt w' (some ⟨b, 0, none⟩) [r, i, y]) => jCanonL (some ⟨b, 0, none⟩) [r, i, y] 3 3 w' (hG.below hb) rfl (by decide) h (fun u hu => by
  simp only [List.mem_cons, List.not_mem_nil, or_false] at hu
  rcases hu with rfl | rfl | rfl
  ·exact ⟨Nat.le_trans hr.1 (by decide), Nat.le_trans hr.2 (by decide)⟩
  ·exact ⟨Nat.le_trans hi.1 (by decide), Nat.le_trans hi.2 (by decide)⟩
  ·exact ⟨Nat.le_trans hy.1 (by decide), Nat.le_trans hy.2 (by decide)⟩))
 have CP := Lib.hid (fun (w' : World) (b : Nat) (hb : Below w.heap.size w w') (h : FrAt w' (some ⟨b, 0, none⟩) [(fN (upQ i y), fD (upQ i y))]) => jPosL (some ⟨b, 0, none⟩) [(fN (upQ i y), fD (upQ i y))] 1 1 w' (hG.below hb) rfl (by decide) h (fun u hu => by
  rw [List.mem_singleton.1 hu]
  exact ⟨Nat.le_trans lu.1 (by decide), Nat.le_trans lu.2 (by decide)⟩))
 have GU := Lib.hid (jGrow i_i i_y (bd_mul (bd_of hi (by decide)) (bd_of hy (by decide))) (by decide) (r := upQ i y) rfl)
 have N1 := Lib.hid (jNegative i_r)
 have N2 := Lib.hid (jNegative i_y)
 have CG := Lib.hid (jGain x hx (by omega) r ⟨Nat.le_trans hr.1 (by decide), Nat.le_trans hr.2 (by decide)⟩ (z := qZ q * (fv r.1 r.2 - stk x)) rfl)
 have CQ := Lib.hid (fun h0 => tQuo (isj_fr bg (by decide)) (isj_fr bu (by decide)) h0 (r := qZ q * (fv r.1 r.2 - stk x) / upQ i y) rfl)
 have CR := Lib.hid (jRound bz (by decide) (by decide) rfl)
 clear i_r i_i i_y bu lu bs bg bz
 go_enter Tryz.func33, Tryz.ntmps33
 have x5' := (((IBox.new w x 27).below (below_alloc _ (.cells #[.string ⟨r.1.toArray⟩, .string ⟨r.2.toArray⟩] 25))).below (below_alloc _ (.cells #[.string ⟨i.1.toArray⟩, .string ⟨i.2.toArray⟩] 25))).below (below_alloc _ (.cells #[.string ⟨y.1.toArray⟩, .string ⟨y.2.toArray⟩] 25))
 have qx5_0 := x5'.c0
 have qx5_1 := x5'.c1
 have qx5_2 := x5'.c2
 have qx5_3 := x5'.c3
 have qx5_4 := x5'.c4
 have qx5_5 := x5'.c5
 have qx5_6 := x5'.c6
 have qx5_7 := x5'.c7
 have qx5_8 := x5'.c8
 have qx5_9 := x5'.c9
 have qx5_10 := x5'.c10
 have qx5_11 := x5'.c11
 have qx5_12 := x5'.c12
 have qx5_13 := x5'.c13
 have qx5_14 := x5'.c14
 go_wp2_with fail
 ((with_reducible refine (CK.out.of hG (bto (bto (bto (below_alloc _ _) (below_alloc _ _)) (below_alloc _ _)) (below_alloc _ _))).mono ?_); rintro e w1 ⟨rfl, hb1⟩)
 have x5 := x5'.below hb1
 have x7 : FBox w1 (w.heap.size + 1) (.string ⟨r.1.toArray⟩) (.string ⟨r.2.toArray⟩) := FBox.below ⟨by simp [go_sem], by simp [go_sem], by simp [go_sem], by simp [go_sem], by first | (simp; done) | (simp; omega)⟩ hb1
 have x8 : FBox w1 (w.heap.size + 2) (.string ⟨i.1.toArray⟩) (.string ⟨i.2.toArray⟩) := FBox.below ⟨by simp [go_sem], by simp [go_sem], by simp [go_sem], by simp [go_sem], by first | (simp; done) | (simp; omega)⟩ hb1
 have x9 : FBox w1 (w.heap.size + 3) (.string ⟨y.1.toArray⟩) (.string ⟨y.2.toArray⟩) := FBox.below ⟨by simp [go_sem], by simp [go_sem], by simp [go_sem], by simp [go_sem], by first | (simp; done) | (simp; omega)⟩ hb1
 have hb : Below w.heap.size w w1 := bto (bto (bto (bto (below_alloc _ _) (below_alloc _ _)) (below_alloc _ _)) (below_alloc _ _)) hb1
 clear qx5_0 qx5_1 qx5_2 qx5_3 qx5_4 qx5_5 qx5_6 qx5_7 qx5_8 qx5_9 qx5_10 qx5_11 qx5_12 qx5_13 qx5_14
 clear hb1 x5' CK
 by_cases g1 : fkE x = 0
 rotate_left
 ·have b1 : (fkE x != 0) = true := bneq' (intbne g1)
  have HV : Hid (presV x q r i y = ([], 1)) := by show _ = _; unfold presV; rw [ok_no1 g1]; rfl
  generalize fkE x = E at *
  clear g1
  go_wp2
  go_ret2
  exact ⟨retS0 HV.out, hb⟩
 have b1 : (fkE x != 0) = false := bneq (intbeq g1)
 have HK := Lib.hid g1
 clear g1
 by_cases g2 : q = canon (val q)
 rotate_left
 ·rw [if_neg g2] at CI
  have HV : Hid (presV x q r i y = ([], 1)) := by show _ = _; unfold presV; rw [ok_no2 g2]; rfl
  clear g2
  go_wp2_with fail
  ((with_reducible refine (CI.out.of hG hb).mono ?_); rintro e wc ⟨rfl, hbc⟩)
  replace x5 := x5.below hbc
  replace x7 := x7.below hbc
  replace x8 := x8.below hbc
  replace x9 := x9.below hbc
  replace hb := bto hb hbc
  clear hbc
  clear CI
  go_wp2
  go_ret2
  exact ⟨retS0 HV.out, hb⟩
 rw [if_pos g2] at CI
 have HO : Hid (okB x q = true) := ok_iff.2 ⟨HK.out, g2⟩
 clear g2 HK
 go_wp2_with fail
 ((with_reducible refine (CI.out.of hG hb).mono ?_); rintro e wc ⟨rfl, hbc⟩)
 replace x5 := x5.below hbc
 replace x7 := x7.below hbc
 replace x8 := x8.below hbc
 replace x9 := x9.below hbc
 replace hb := bto hb hbc
 clear hbc
 clear CI
 have q70 := x7.c0
 have q71 := x7.c1
 have q80 := x8.c0
 have q81 := x8.c1
 have q90 := x9.c0
 have q91 := x9.c1
 go_wp2_with fail
 refine (CC.out _ _ (bto hb (below_alloc _ _)) (frAt_of (by first | (simp; done) | (simp; omega)) (fun i hi => by
  have hi : i = 0 ∨ i = 1 ∨ i = 2 := by simp at hi; omega
  rcases hi with rfl | rfl | rfl <;> simp [go_sem]))).mono ?_
 rintro e w2 ⟨rfl, hb2'⟩
 have hb2 := bto (below_alloc _ _) hb2'
 clear q70 q71 q80 q81 q90 q91 hb2'
 replace x5 := x5.below hb2
 replace x7 := x7.below hb2
 replace x8 := x8.below hb2
 replace x9 := x9.below hb2
 replace hb := bto hb hb2
 clear hb2
 clear CC
 by_cases gC : [r, i, y].all canB = true
 rotate_left
 ·rw [not_true_b gC]
  have HV : Hid (presV x q r i y = ([], 1)) := by show _ = _; unfold presV; rw [HO.out, not_true_b gC]; rfl
  clear gC
  go_wp2
  go_ret2
  exact ⟨retS0 HV.out, hb⟩
 have HC : Hid ((okB x q && [r, i, y].all canB) = true) := by show _ = _; rw [HO.out, gC]; rfl
 rw [gC]
 clear gC HO
 by_cases g3 : fv r.1 r.2 < 0
 ·have t3 : decide (fv r.1 r.2 < 0) = true := decide_eq_true g3
  rw [t3] at N1
  have HV : Hid (presV x q r i y = ([], 2)) := by show _ = _; unfold presV; rw [if_neg (fun h => h HC.out), if_pos (by rw [pres_eq, t3]; simp)]
  clear g3 t3
  have qx70 := x7.c0
  have qx71 := x7.c1
  go_wp2_with fail
  ((with_reducible refine (N1.out.of hG hb).mono ?_); rintro e w3 ⟨rfl, hb3⟩)
  replace x5 := x5.below hb3
  replace x7 := x7.below hb3
  replace x8 := x8.below hb3
  replace x9 := x9.below hb3
  replace hb := bto hb hb3
  clear hb3
  clear qx70 qx71
  go_wp2
  go_ret2
  exact ⟨retS0 HV.out, hb⟩
 have t3 : decide (fv r.1 r.2 < 0) = false := decide_eq_false g3
 rw [t3] at N1
 have H3 := Lib.hid t3
 clear g3 t3
 have qx70 := x7.c0
 have qx71 := x7.c1
 go_wp2_with fail
 ((with_reducible refine (N1.out.of hG hb).mono ?_); rintro e w3 ⟨rfl, hb3⟩)
 replace x5 := x5.below hb3
 replace x7 := x7.below hb3
 replace x8 := x8.below hb3
 replace x9 := x9.below hb3
 replace hb := bto hb hb3
 clear hb3
 clear qx70 qx71
 by_cases g4 : fv y.1 y.2 < 0
 ·have t4 : decide (fv y.1 y.2 < 0) = true := decide_eq_true g4
  rw [t4] at N2
  have HV : Hid (presV x q r i y = ([], 2)) := by show _ = _; unfold presV; rw [if_neg (fun h => h HC.out), if_pos (by rw [pres_eq, t4]; simp)]
  clear g4 t4
  have qx90 := x9.c0
  have qx91 := x9.c1
  go_wp2_with fail
  ((with_reducible refine (N2.out.of hG hb).mono ?_); rintro e w4 ⟨rfl, hb4⟩)
  replace x5 := x5.below hb4
  replace x7 := x7.below hb4
  replace x8 := x8.below hb4
  replace x9 := x9.below hb4
  replace hb := bto hb hb4
  clear hb4
  clear qx90 qx91
  go_wp2
  go_ret2
  exact ⟨retS0 HV.out, hb⟩
 have t4 : decide (fv y.1 y.2 < 0) = false := decide_eq_false g4
 rw [t4] at N2
 have H4 := Lib.hid t4
 clear g4 t4
 have qx90 := x9.c0
 have qx91 := x9.c1
 go_wp2_with fail
 ((with_reducible refine (N2.out.of hG hb).mono ?_); rintro e w4 ⟨rfl, hb4⟩)
 replace x5 := x5.below hb4
 replace x7 := x7.below hb4
 replace x8 := x8.below hb4
 replace x9 := x9.below hb4
 replace hb := bto hb hb4
 clear hb4
 clear qx90 qx91
 have qx80 := x8.c0
 have qx81 := x8.c1
 have qx90 := x9.c0
 have qx91 := x9.c1
 go_wp2_with fail
 ((with_reducible refine (GU.out.of hG hb).mono ?_); rintro e w5 ⟨rfl, hb5⟩)
 replace x5 := x5.below hb5
 replace x7 := x7.below hb5
 replace x8 := x8.below hb5
 replace x9 := x9.below hb5
 replace hb := bto hb hb5
 clear hb5
 clear qx80 qx81 qx90 qx91
 go_wp2_with fail
 refine (CP.out _ _ (bto hb (below_alloc _ _)) (frAt_of (by first | (simp; done) | (simp; omega)) (fun i hi => by
  have hi : i = 0 := by simp at hi; omega
  subst hi; simp [go_sem]))).mono ?_
 rintro e w6 ⟨rfl, hb6'⟩
 have hb6 := bto (below_alloc _ _) hb6'
 clear hb6'
 replace x5 := x5.below hb6
 replace x7 := x7.below hb6
 replace x8 := x8.below hb6
 replace x9 := x9.below hb6
 replace hb := bto hb hb6
 clear hb6
 clear CP
 by_cases gP : [(fN (upQ i y), fD (upQ i y))].all posB = true
 rotate_left
 ·rw [not_true_b gP]
  have HV : Hid (presV x q r i y = ([], 2)) := by show _ = _; unfold presV; rw [if_neg (fun h => h HC.out), if_pos (by rw [pres_eq, not_true_b gP]; simp)]
  clear gP
  go_wp2
  go_ret2
  exact ⟨retS0 HV.out, hb⟩
 have h0 : upQ i y ≠ 0 := fun h => by
  simp only [List.all_cons, List.all_nil, Bool.and_true, posB, fv_frac, decide_eq_true_eq] at gP
  rw [h] at gP; exact absurd gP Rat.lt_irrefl
 have HV : Hid (presV x q r i y = (canon (rnd (qZ q * (fv r.1 r.2 - stk x) / upQ i y) 1), 0)) := by show _ = _; unfold presV; rw [if_neg (fun h => h HC.out), if_neg (by rw [pres_eq, H3.out, H4.out, gP]; decide)]
 replace CQ := Lib.hid (CQ.out h0)
 rw [gP]
 clear gP h0 HC H3 H4
 generalize qZ q * (fv r.1 r.2 - stk x) / upQ i y = ZN at *
 generalize qZ q * (fv r.1 r.2 - stk x) = GN at *
 generalize upQ i y = UN at *
 go_wp2_with fail
 refine wp_region_kept (by kernel_rfl) (by kernel_rfl) ?_
 refine kept_val _ (fun _ => rfl) (fun ρ w hw => by have q0 := (x5.below hw).c0; have q1 := (x5.below hw).c1; have q2 := (x5.below hw).c2; have q3 := (x5.below hw).c3; have q4 := (x5.below hw).c4; have q5 := (x5.below hw).c5; have q6 := (x5.below hw).c6; have q7 := (x5.below hw).c7; have q8 := (x5.below hw).c8; have q9 := (x5.below hw).c9; have q10 := (x5.below hw).c10; have q11 := (x5.below hw).c11; have q12 := (x5.below hw).c12; have q13 := (x5.below hw).c13; have q14 := (x5.below hw).c14; go_simp; first | done | with_reducible rfl) ?_
 simp only [Act.put, StT, StZ, StS, Nat.reduceAdd]
 refine kept_val _ (fun _ => rfl) (fun ρ w hw => by go_simp; first | done | with_reducible rfl) ?_
 simp only [Act.put, StT, StZ, StS, Nat.reduceAdd]
 refine kept_val _ (fun _ => rfl) (fun ρ w hw => by have q0 := (x7.below hw).c0; have q1 := (x7.below hw).c1; go_simp; first | done | with_reducible rfl) ?_
 simp only [Act.put, StT, StZ, StS, Nat.reduceAdd]
 refine kept_call _ _ _ (fun _ => rfl) (fun ρ w hw => by go_simp; first | done | with_reducible rfl) (fun w hw => CG.out.of hG (bto hb hw)) ?_
 simp only [Act.put, StT, StZ, StS, Nat.reduceAdd]
 refine kept_val _ (fun _ => rfl) (fun ρ w hw => by have q0 := (x8.below hw).c0; have q1 := (x8.below hw).c1; go_simp; first | done | with_reducible rfl) ?_
 simp only [Act.put, StT, StZ, StS, Nat.reduceAdd]
 refine kept_val _ (fun _ => rfl) (fun ρ w hw => by have q0 := (x9.below hw).c0; have q1 := (x9.below hw).c1; go_simp; first | done | with_reducible rfl) ?_
 simp only [Act.put, StT, StZ, StS, Nat.reduceAdd]
 refine kept_call _ _ _ (fun _ => rfl) (fun ρ w hw => by go_simp; first | done | with_reducible rfl) (fun w hw => GU.out.of hG (bto hb hw)) ?_
 simp only [Act.put, StT, StZ, StS, Nat.reduceAdd]
 refine kept_call _ _ _ (fun _ => rfl) (fun ρ w hw => by go_simp; first | done | with_reducible rfl) (fun w hw => CQ.out.of hG (bto hb hw)) ?_
 iterate 3
  simp only [Act.put, StT, StZ, StS, Nat.reduceAdd]
  refine kept_val _ (fun _ => rfl) (fun ρ w hw => by go_simp; first | done | with_reducible rfl) ?_
 simp only [Act.put, StT, StZ, StS, Nat.reduceAdd]
 refine kept_box (fun b => .pointer (some ⟨b, 0, none⟩)) _ rfl (fun _ => rfl) (fun ρ w hw => by go_simp; first | done | with_reducible rfl) ?_
 simp only [Act.put, StT, StZ, StS, Nat.reduceAdd]
 refine kept_put2 11 _ 12 _ _ _ _ _ rfl rfl rfl (by decide) (fun _ => rfl) (fun ρ w hw q0 q1 q2 q3 => by go_simp; first | done | with_reducible rfl) ?_
 simp only [Act.put, Nat.reduceAdd]
 refine kept_val _ (fun _ => rfl) (fun ρ w hw => by go_simp; first | done | with_reducible rfl) ?_
 simp only [Act.put, StT, StZ, StS, Nat.reduceAdd]
 refine kept_end (fun ρ w61 hF => ?_)
 replace x5 := x5.below hF.below
 replace x7 := x7.below hF.below
 replace x8 := x8.below hF.below
 replace x9 := x9.below hF.below
 replace hb := bto hb hF.below
 have x12 := FBox.ofB (hF.box 11 _ _ rfl).2
 generalize ρ 11 = b12 at *
 clear hF
 have q120 := x12.c0
 have q121 := x12.c1
 go_wp2_with fail
 ((with_reducible refine (CR.out.of hG hb).mono ?_); rintro e w90 ⟨rfl, hb90⟩)
 replace hb := bto hb hb90
 clear q120 q121 hb90
 go_wp2
 go_ret2
 exact ⟨retS HV.out, hb⟩
set_option maxHeartbeats 2000000 in
set_option maxRecDepth 100000 in
theorem jValue (x : Ins) (hx : x.Small) (ht : x.Tiny) (q : List UInt8) (hq : q.length ≤ 20) (r : Fp2) (hr : r.1.length ≤ 20 ∧ r.2.length ≤ 20) : Ret 32 #[(Value.agg #[Value.string ⟨List.toArray x.id⟩, Value.int .i64 x.kind, Value.string ⟨List.toArray x.cur⟩, Value.int .i64 x.places, Value.int .i64 x.issued, Value.int .i64 x.matures, Value.string ⟨List.toArray x.fn⟩, Value.string ⟨List.toArray x.fd⟩, Value.string ⟨List.toArray x.cn⟩, Value.string ⟨List.toArray x.cd⟩, Value.int .i64 x.months, Value.int .i64 x.count, Value.string ⟨List.toArray x.other⟩, Value.string ⟨List.toArray x.sn⟩, Value.string ⟨List.toArray x.sd⟩]), .string ⟨q.toArray⟩, (Value.agg #[Value.string ⟨List.toArray (r.1)⟩, Value.string ⟨List.toArray (r.2)⟩])] (.tuple #[.string ⟨(presV x q r ([], []) ([], [])).1.toArray⟩, .int .i64 (presV x q r ([], []) ([], [])).2]) := fun w hG => by
 have C1 := Lib.hid (jPresent x hx ht q hq r ([], []) ([], []) hr ⟨by decide, by decide⟩ ⟨by decide, by decide⟩)
 generalize (presV x q r ([], []) ([], [])).1 = v1 at *
 generalize (presV x q r ([], []) ([], [])).2 = v2 at *
 go_enter Tryz.func32, Tryz.ntmps32
 go_wp2_with fail
 ((with_reducible refine (C1.out.of hG (bto (below_alloc _ _) (below_alloc _ _))).mono ?_); rintro e w1 ⟨rfl, hb1⟩)
 have hb : Below w.heap.size w w1 := bto (bto (below_alloc _ _) (below_alloc _ _)) hb1
 clear hb1 C1
 go_wp2
 go_ret2
 exact ⟨rfl, hb⟩
set_option maxHeartbeats 8000000 in
set_option maxRecDepth 100000 in
theorem jSettle (x : Ins) (hx : x.Small) (ht : x.Tiny) (q : List UInt8) (hq : q.length ≤ 20) (w : World) (hG : Glob w) : Calls Tryz.prog 31 #[(Value.agg #[Value.string ⟨List.toArray x.id⟩, Value.int .i64 x.kind, Value.string ⟨List.toArray x.cur⟩, Value.int .i64 x.places, Value.int .i64 x.issued, Value.int .i64 x.matures, Value.string ⟨List.toArray x.fn⟩, Value.string ⟨List.toArray x.fd⟩, Value.string ⟨List.toArray x.cn⟩, Value.string ⟨List.toArray x.cd⟩, Value.int .i64 x.months, Value.int .i64 x.count, Value.string ⟨List.toArray x.other⟩, Value.string ⟨List.toArray x.sn⟩, Value.string ⟨List.toArray x.sd⟩]), .string ⟨q.toArray⟩] w (MonEnd (setV x q).1 (setV x q).2 w) := by
 have bs : Bd 20 (stk x) := bd_of (r := (x.sn, x.sd)) ht (by decide)
 have bq := bd_q hq (by decide)
 have bm : Bd 40 (qZ q * stk x) := bd_mul bq bs
 have CK := Lib.hid (jFk x hx)
 have CI := Lib.hid (qCheck (l := q) (by omega) (c := if q = canon (val q) then 0 else 1) rfl)
 have CO := Lib.hid (tOf (l := q) (by omega) rfl)
 have CM := Lib.hid (tMul (isj_fr bq (by decide)) (isj_raw (Nat.le_trans hx.sn (by decide)) (Nat.le_trans hx.sd (by decide))) (r := qZ q * stk x) rfl)
 have CR := Lib.hid (jRound bm (by decide) (by decide) rfl)
 have CN := Lib.hid (qNeg (l := canon (rnd (qZ q * stk x) 1)) (Nat.le_trans (canon_len_le _ 41 (bd_rnd bm 1)) (by decide)) (show -val (canon (rnd (qZ q * stk x) 1)) = paidZ x q by rw [val_canon]; rfl))
 generalize qZ q * stk x = MN at *
 unfold qZ at CM
 generalize ((val q : Int) : Rat) = QN at *
 clear bs bm bq
 go_enter Tryz.func31, Tryz.ntmps31
 have x2' := IBox.new w x 27
 have qx2_0 := x2'.c0
 have qx2_1 := x2'.c1
 have qx2_2 := x2'.c2
 have qx2_3 := x2'.c3
 have qx2_4 := x2'.c4
 have qx2_5 := x2'.c5
 have qx2_6 := x2'.c6
 have qx2_7 := x2'.c7
 have qx2_8 := x2'.c8
 have qx2_9 := x2'.c9
 have qx2_10 := x2'.c10
 have qx2_11 := x2'.c11
 have qx2_12 := x2'.c12
 have qx2_13 := x2'.c13
 have qx2_14 := x2'.c14
 go_wp2_with fail
 ((with_reducible refine (CK.out.of hG (below_alloc _ _)).mono ?_); rintro e w1 ⟨rfl, hb1⟩)
 have x2 := x2'.below hb1
 have hb : Below w.heap.size w w1 := bto (below_alloc _ _) hb1
 clear qx2_0 qx2_1 qx2_2 qx2_3 qx2_4 qx2_5 qx2_6 qx2_7 qx2_8 qx2_9 qx2_10 qx2_11 qx2_12 qx2_13 qx2_14
 clear hb1 x2' CK
 by_cases g1 : fkE x = 0
 rotate_left
 ·have b1 : (fkE x != 0) = true := bneq' (intbne g1)
  have HV : Hid (setV x q = ([], 1)) := by show _ = _; unfold setV; rw [ok_no1 g1]; rfl
  generalize fkE x = E at *
  clear g1
  go_wp2
  go_ret2
  exact monEnd_no HV.out hb
 have b1 : (fkE x != 0) = false := bneq (intbeq g1)
 have HK := Lib.hid g1
 clear g1
 by_cases g2 : q = canon (val q)
 rotate_left
 ·rw [if_neg g2] at CI
  have HV : Hid (setV x q = ([], 1)) := by show _ = _; unfold setV; rw [ok_no2 g2]; rfl
  clear g2
  go_wp2_with fail
  ((with_reducible refine (CI.out.of hG hb).mono ?_); rintro e w2 ⟨rfl, hb2⟩)
  replace hb := bto hb hb2
  go_wp2
  go_ret2
  exact monEnd_no HV.out hb
 rw [if_pos g2] at CI
 have hk := HK.out
 have HV : Hid (setV x q = (setL x q, 0)) := by show _ = _; unfold setV; rw [if_neg (fun h => h (ok_iff.2 ⟨hk, g2⟩))]
 have hF := fwd_of hk
 have C1 := Lib.hid (fun (w' : World) (hb : Below w.heap.size w w') => jPutG (A := none) (n := 0) (c := 0) (m := ⟨x.cur, q⟩) (hG.below hb) (bg_nil 41) (by decide) (AtM.nil w') hF.cur g2 (by show q.length ≤ 100; omega) (zs := putL [] ⟨x.cur, q⟩) rfl (by decide) (Nat.le_trans (set_bg1 hF hq).len (by decide)))
 have C2 := Lib.hid (fun (w' : World) (B : Option Addr) (m c : Nat) (hb : Below w.heap.size w w') (hA : AtM w' B (putL [] ⟨x.cur, q⟩) m c) => jPutG (m := ⟨x.other, canon (paidZ x q)⟩) (hG.below hb) (set_bg1 hF hq) (by decide) hA hF.oth (by show canon _ = canon _; rw [val_canon]) (Nat.le_trans (paid_len ht hq) (by decide)) (zs := setL x q) rfl (Nat.le_trans (set_bg1 hF hq).len (by decide)) (Nat.le_trans (set_bg2 hF ht hq).len (by decide)))
 generalize setL x q = ZL at *
 generalize putL [] ⟨x.cur, q⟩ = XL at *
 generalize canon (paidZ x q) = PA at *
 clear g2 HK hk hF
 go_wp2_with fail
 ((with_reducible refine (CI.out.of hG hb).mono ?_); rintro e w2 ⟨rfl, hb2⟩)
 replace x2 := x2.below hb2
 replace hb := bto hb hb2
 clear hb2 CI
 go_wp2_with fail
 refine wp_region_kept (by kernel_rfl) (by kernel_rfl) ?_
 refine kept_val _ (fun _ => rfl) (fun ρ w hw => by go_simp; first | done | with_reducible rfl) ?_
 simp only [Act.put, StT, StZ, StS, Nat.reduceAdd]
 refine kept_call _ _ _ (fun _ => rfl) (fun ρ w hw => by go_simp; first | done | with_reducible rfl) (fun w hw => CO.out.of hG (bto hb hw)) ?_
 simp only [Act.put, StT, StZ, StS, Nat.reduceAdd]
 refine kept_val _ (fun _ => rfl) (fun ρ w hw => by go_simp; first | done | with_reducible rfl) ?_
 simp only [Act.put, StT, StZ, StS, Nat.reduceAdd]
 refine kept_val _ (fun _ => rfl) (fun ρ w hw => by have q13 := (x2.below hw).c13; have q14 := (x2.below hw).c14; go_simp; first | done | with_reducible rfl) ?_
 simp only [Act.put, StT, StZ, StS, Nat.reduceAdd]
 refine kept_call _ _ _ (fun _ => rfl) (fun ρ w hw => by go_simp; first | done | with_reducible rfl) (fun w hw => CM.out.of hG (bto hb hw)) ?_
 simp only [Act.put, StT, StZ, StS, Nat.reduceAdd]
 refine kept_call _ _ _ (fun _ => rfl) (fun ρ w hw => by go_simp; first | done | with_reducible rfl) (fun w hw => CR.out.of hG (bto hb hw)) ?_
 simp only [Act.put, StT, StZ, StS, Nat.reduceAdd]
 refine kept_call _ _ _ (fun _ => rfl) (fun ρ w hw => by go_simp; first | done | with_reducible rfl) (fun w hw => CN.out.of hG (bto hb hw)) ?_
 simp only [Act.put, StT, StZ, StS, Nat.reduceAdd]
 refine kept_val _ (fun _ => rfl) (fun ρ w hw => by go_simp; first | done | with_reducible rfl) ?_
 simp only [Act.put, StT, StZ, StS, Nat.reduceAdd]
 refine kept_end (fun ρ w61 hF => ?_)
 replace x2 := x2.below hF.below
 replace hb := bto hb hF.below
 clear hF
 have qx2_0 := x2.c0
 have qx2_1 := x2.c1
 have qx2_2 := x2.c2
 have qx2_3 := x2.c3
 have qx2_4 := x2.c4
 have qx2_5 := x2.c5
 have qx2_6 := x2.c6
 have qx2_7 := x2.c7
 have qx2_8 := x2.c8
 have qx2_9 := x2.c9
 have qx2_10 := x2.c10
 have qx2_11 := x2.c11
 have qx2_12 := x2.c12
 have qx2_13 := x2.c13
 have qx2_14 := x2.c14
 go_wp2_with fail
 refine (C1.out _ hb).mono ?_
 rintro e w3 ⟨B, m, cp, rfl, hA, hb3⟩
 clear qx2_0 qx2_1 qx2_2 qx2_3 qx2_4 qx2_5 qx2_6 qx2_7 qx2_8 qx2_9 qx2_10 qx2_11 qx2_12 qx2_13 qx2_14
 replace x2 := x2.below hb3
 replace hb := bto hb hb3
 clear hb3 C1
 have C3 := Lib.hid (C2.out w3 B m cp hb hA)
 clear C2 hA
 have qx2_0 := x2.c0
 have qx2_1 := x2.c1
 have qx2_2 := x2.c2
 have qx2_3 := x2.c3
 have qx2_4 := x2.c4
 have qx2_5 := x2.c5
 have qx2_6 := x2.c6
 have qx2_7 := x2.c7
 have qx2_8 := x2.c8
 have qx2_9 := x2.c9
 have qx2_10 := x2.c10
 have qx2_11 := x2.c11
 have qx2_12 := x2.c12
 have qx2_13 := x2.c13
 have qx2_14 := x2.c14
 go_wp2_with fail
 refine C3.out.mono ?_
 rintro e w4 ⟨B4, m4, cp4, rfl, hA4, hb4⟩
 have HA := Lib.hid hA4
 clear qx2_0 qx2_1 qx2_2 qx2_3 qx2_4 qx2_5 qx2_6 qx2_7 qx2_8 qx2_9 qx2_10 qx2_11 qx2_12 qx2_13 qx2_14
 clear C3 hA4 x2
 go_wp2
 go_ret2
 exact ⟨B4, m4, cp4, by rw [HV.out]; rfl, by rw [HV.out]; exact HA.out.len, HA.out.cap, by rw [HV.out]; exact HA.out.mem, bto hb hb4⟩
set_option maxHeartbeats 8000000 in
set_option maxRecDepth 100000 in
theorem jEven (x : Ins) (hx : x.Small) (q v : List UInt8) (hq : q.length ≤ 60) (hv : v.length ≤ 60) : Ret 35 #[(Value.agg #[Value.string ⟨List.toArray x.id⟩, Value.int .i64 x.kind, Value.string ⟨List.toArray x.cur⟩, Value.int .i64 x.places, Value.int .i64 x.issued, Value.int .i64 x.matures, Value.string ⟨List.toArray x.fn⟩, Value.string ⟨List.toArray x.fd⟩, Value.string ⟨List.toArray x.cn⟩, Value.string ⟨List.toArray x.cd⟩, Value.int .i64 x.months, Value.int .i64 x.count, Value.string ⟨List.toArray x.other⟩, Value.string ⟨List.toArray x.sn⟩, Value.string ⟨List.toArray x.sd⟩]), .string ⟨q.toArray⟩, .string ⟨v.toArray⟩] (.tuple #[(Value.agg #[Value.string ⟨List.toArray (fN ((evenV x q v).1))⟩, Value.string ⟨List.toArray (fD ((evenV x q v).1))⟩]), .int .i64 (evenV x q v).2]) := fun w hG => by
 have CK := Lib.hid (jFk x hx)
 have CI := Lib.hid (qCheck (l := q) (by omega) (c := if q = canon (val q) then 0 else 1) rfl)
 have CJ := Lib.hid (qCheck (l := v) (by omega) (c := if v = canon (val v) then 0 else 1) rfl)
 have N0 := Lib.hid (fun h0 => sNew0 (l := v) (l' := q) (by omega) h0)
 have N1 := Lib.hid (fun (h0 : val q ≠ 0) => sNew1 (l := v) (l' := q) (by omega) (by omega) h0 (q := Rat.divInt (val v) (val q)) (by unfold fv den1; rw [if_neg h0]))
 have CA := Lib.hid (fun (h0 : val q ≠ 0) => tAdd (isj_raw (Nat.le_trans hx.sn (by decide)) (Nat.le_trans hx.sd (by decide))) (isj_fr (bd_divInt (val_lt_of hv) (val_lt_of hq) h0) (by decide)) (r := stk x + Rat.divInt (val v) (val q)) rfl)
 go_enter Tryz.func35, Tryz.ntmps35
 have x3' := (IBox.new w x 27).below (below_alloc _ (.cells #[.string ⟨#[]⟩, .string ⟨#[]⟩] 25))
 have qx3_0 := x3'.c0
 have qx3_1 := x3'.c1
 have qx3_2 := x3'.c2
 have qx3_3 := x3'.c3
 have qx3_4 := x3'.c4
 have qx3_5 := x3'.c5
 have qx3_6 := x3'.c6
 have qx3_7 := x3'.c7
 have qx3_8 := x3'.c8
 have qx3_9 := x3'.c9
 have qx3_10 := x3'.c10
 have qx3_11 := x3'.c11
 have qx3_12 := x3'.c12
 have qx3_13 := x3'.c13
 have qx3_14 := x3'.c14
 go_wp2_with fail
 ((with_reducible refine (CK.out.of hG (bto (below_alloc _ _) (below_alloc _ _))).mono ?_); rintro e w1 ⟨rfl, hb1⟩)
 have x3 := x3'.below hb1
 have z6 : w1.heap[w.heap.size + 1]? = some (.cells #[.string ⟨#[]⟩, .string ⟨#[]⟩] 25) := (hb1.block _ (by first | (simp; done) | (simp; omega))).trans (by simp [World.alloc, Array.getElem_push, -World.alloc_eq])
 have hb : Below w.heap.size w w1 := bto (bto (below_alloc _ _) (below_alloc _ _)) hb1
 clear qx3_0 qx3_1 qx3_2 qx3_3 qx3_4 qx3_5 qx3_6 qx3_7 qx3_8 qx3_9 qx3_10 qx3_11 qx3_12 qx3_13 qx3_14
 clear hb1 x3' CK
 by_cases g1 : fkE x = 0
 rotate_left
 ·have b1 : (fkE x != 0) = true := bneq' (intbne g1)
  have q0 := (FBox.ofB z6).c0
  have q1 := (FBox.ofB z6).c1
  have q2 := (FBox.ofB z6).f0
  have q3 := (FBox.ofB z6).f1
  have HV : Hid (evenV x q v = (0, 1)) := by show _ = _; unfold evenV; rw [ok_no1 g1]; rfl
  generalize fkE x = E at *
  clear g1 x3
  go_wp2
  have hy := (FBox.ofB z6).set (.string ⟨#[]⟩) (.string ⟨#[]⟩)
  have d0 := hy.c0
  have d1 := hy.c1
  refine bodyPost_ret (v := .tuple #[.agg #[.string ⟨#[]⟩, .string ⟨#[]⟩], .int .i64 1]) (by simp [results, Tryz.results35, go_sem, d0, d1]) rfl ?_
  exact ⟨ret0 HV.out, below_set2 (b := w.heap.size + 1) hb (by omega) _ _⟩
 have b1 : (fkE x != 0) = false := bneq (intbeq g1)
 have HK := Lib.hid g1
 clear g1
 by_cases g2 : q = canon (val q)
 rotate_left
 ·rw [if_neg g2] at CI
  go_wp2_with fail
  ((with_reducible refine (CI.out.of hG hb).mono ?_); rintro e w2 ⟨rfl, hb2⟩)
  replace z6 := (hb2.block _ (Array.getElem?_eq_some_iff.1 z6).1).trans z6
  replace x3 := x3.below hb2
  replace hb := bto hb hb2
  clear hb2 CI
  have q0 := (FBox.ofB z6).c0
  have q1 := (FBox.ofB z6).c1
  have q2 := (FBox.ofB z6).f0
  have q3 := (FBox.ofB z6).f1
  have HV : Hid (evenV x q v = (0, 1)) := by show _ = _; unfold evenV; rw [ok_no2 g2]; rfl
  clear g2 x3
  go_wp2
  have hy := (FBox.ofB z6).set (.string ⟨#[]⟩) (.string ⟨#[]⟩)
  have d0 := hy.c0
  have d1 := hy.c1
  refine bodyPost_ret (v := .tuple #[.agg #[.string ⟨#[]⟩, .string ⟨#[]⟩], .int .i64 1]) (by simp [results, Tryz.results35, go_sem, d0, d1]) rfl ?_
  exact ⟨ret0 HV.out, below_set2 (b := w.heap.size + 1) hb (by omega) _ _⟩
 rw [if_pos g2] at CI
 have HT : Hid (okB x q = true) := ok_iff.2 ⟨HK.out, g2⟩
 clear g2 HK
 go_wp2_with fail
 ((with_reducible refine (CI.out.of hG hb).mono ?_); rintro e w2 ⟨rfl, hb2⟩)
 replace z6 := (hb2.block _ (Array.getElem?_eq_some_iff.1 z6).1).trans z6
 replace x3 := x3.below hb2
 replace hb := bto hb hb2
 clear hb2 CI
 by_cases gv : v = canon (val v)
 rotate_left
 ·rw [if_neg gv] at CJ
  go_wp2_with fail
  ((with_reducible refine (CJ.out.of hG hb).mono ?_); rintro e w3 ⟨rfl, hb3⟩)
  replace z6 := (hb3.block _ (Array.getElem?_eq_some_iff.1 z6).1).trans z6
  replace x3 := x3.below hb3
  replace hb := bto hb hb3
  clear hb3 CJ
  have q0 := (FBox.ofB z6).c0
  have q1 := (FBox.ofB z6).c1
  have q2 := (FBox.ofB z6).f0
  have q3 := (FBox.ofB z6).f1
  have HV : Hid (evenV x q v = (0, 1)) := by show _ = _; unfold evenV; rw [HT.out, decide_eq_false gv]; rfl
  clear gv x3
  go_wp2
  have hy := (FBox.ofB z6).set (.string ⟨#[]⟩) (.string ⟨#[]⟩)
  have d0 := hy.c0
  have d1 := hy.c1
  refine bodyPost_ret (v := .tuple #[.agg #[.string ⟨#[]⟩, .string ⟨#[]⟩], .int .i64 1]) (by simp [results, Tryz.results35, go_sem, d0, d1]) rfl ?_
  exact ⟨ret0 HV.out, below_set2 (b := w.heap.size + 1) hb (by omega) _ _⟩
 rw [if_pos gv] at CJ
 have HG := Lib.hid (show (okB x q && decide (v = canon (val v))) = true by rw [HT.out, decide_eq_true gv]; rfl)
 clear gv
 go_wp2_with fail
 ((with_reducible refine (CJ.out.of hG hb).mono ?_); rintro e w3 ⟨rfl, hb3⟩)
 replace z6 := (hb3.block _ (Array.getElem?_eq_some_iff.1 z6).1).trans z6
 replace x3 := x3.below hb3
 replace hb := bto hb hb3
 clear hb3 CJ
 by_cases g0 : val q = 0
 ·replace N0 := Lib.hid (N0.out g0)
  have HZ := Lib.hid g0
  clear g0
  go_wp2_with fail
  ((with_reducible refine (N0.out.of hG hb).mono ?_); rintro e w4 ⟨rfl, hb4⟩)
  have hbA := below_alloc w4 (.cells #[.string ⟨#[]⟩, .string ⟨#[]⟩] 25)
  have hbC := bto hb4 hbA
  replace z6 := (hbC.block _ (Array.getElem?_eq_some_iff.1 z6).1).trans z6
  replace hb := bto hb hbC
  clear hb4 hbA hbC N0
  have q0 := (FBox.ofB z6).c0
  have q1 := (FBox.ofB z6).c1
  have q2 := (FBox.ofB z6).f0
  have q3 := (FBox.ofB z6).f1
  have HV : Hid (evenV x q v = (0, 10)) := by show _ = _; unfold evenV; rw [if_neg (fun h => h HG.out), if_pos HZ.out]
  clear x3
  go_wp2
  have hy := (FBox.ofB z6).set (.string ⟨#[]⟩) (.string ⟨#[]⟩)
  have d0 := hy.c0
  have d1 := hy.c1
  refine bodyPost_ret (v := .tuple #[.agg #[.string ⟨#[]⟩, .string ⟨#[]⟩], .int .i64 10]) (by simp [results, Tryz.results35, go_sem, d0, d1]) rfl ?_
  exact ⟨ret0 HV.out, below_set2 (b := w.heap.size + 1) hb (by omega) _ _⟩
 replace N1 := Lib.hid (N1.out g0)
 replace CA := Lib.hid (CA.out g0)
 have HV : Hid (evenV x q v = (stk x + Rat.divInt (val v) (val q), 0)) := by show _ = _; unfold evenV; rw [if_neg (fun h => h HG.out), if_neg g0]
 generalize stk x + Rat.divInt (val v) (val q) = RN at *
 generalize fN (Rat.divInt (val v) (val q)) = u1 at *
 generalize fD (Rat.divInt (val v) (val q)) = u2 at *
 clear g0 HG HT N0
 go_wp2_with fail
 ((with_reducible refine (N1.out.of hG hb).mono ?_); rintro e w4 ⟨rfl, hb4⟩)
 have hbA := below_alloc w4 (.cells #[.string ⟨u1.toArray⟩, .string ⟨u2.toArray⟩] 25)
 have x8 := FBox.new w4 (.string ⟨u1.toArray⟩) (.string ⟨u2.toArray⟩) 25
 have hbC := bto hb4 hbA
 replace z6 := (hbC.block _ (Array.getElem?_eq_some_iff.1 z6).1).trans z6
 replace x3 := x3.below hbC
 replace hb := bto hb hbC
 clear hb4 hbA hbC N1
 have q313 := x3.c13
 have q314 := x3.c14
 have q80 := x8.c0
 have q81 := x8.c1
 go_wp2_with fail
 ((with_reducible refine (CA.out.of hG hb).mono ?_); rintro e w5 ⟨rfl, hb5⟩)
 replace z6 := (hb5.block _ (Array.getElem?_eq_some_iff.1 z6).1).trans z6
 replace hb := bto hb hb5
 clear hb5 q313 q314 q80 q81 x3 x8 CA
 obtain ⟨v1, hv1⟩ : ∃ v1, v1 = fN RN := ⟨_, rfl⟩
 obtain ⟨v2, hv2⟩ : ∃ v2, v2 = fD RN := ⟨_, rfl⟩
 rw [← hv1, ← hv2]
 have H1 := Lib.hid hv1
 have H2 := Lib.hid hv2
 clear hv1 hv2
 have q0 := (FBox.ofB z6).c0
 have q1 := (FBox.ofB z6).c1
 have q2 := (FBox.ofB z6).f0
 have q3 := (FBox.ofB z6).f1
 go_wp2
 have hy := (FBox.ofB z6).set (.string ⟨v1.toArray⟩) (.string ⟨v2.toArray⟩)
 have d0 := hy.c0
 have d1 := hy.c1
 refine bodyPost_ret (v := .tuple #[.agg #[.string ⟨v1.toArray⟩, .string ⟨v2.toArray⟩], .int .i64 0]) (by simp [results, Tryz.results35, go_sem, d0, d1]) rfl ?_
 exact ⟨by rw [H1.out, H2.out]; exact retq HV.out, below_set2 (b := w.heap.size + 1) hb (by omega) _ _⟩
end Go.Proofs.YtgnppdkeiihlfaaGreatDoor
namespace Go.Proofs.YtgnppdkeiihlfaaGreatDoor
open Go.RowKit Num
def StsAt (w : World) (A : Option Addr) (rs : List (List UInt8)) : Prop := ∀ (i : Nat) (r : List UInt8), rs[i]? = some r → ∃ b o, A = some ⟨b, o, none⟩ ∧ b < w.heap.size ∧ w.cell? ⟨b, o + i, none⟩ = some (.string ⟨r.toArray⟩)
theorem StsAt.below {w w' : World} {A : Option Addr} {rs : List (List UInt8)} (h : StsAt w A rs) (hb : Below w.heap.size w w') : StsAt w' A rs := fun i t ht => by
  obtain ⟨b, o, hA, hl, h0⟩ := h i t ht
  exact ⟨b, o, hA, Nat.lt_of_lt_of_le hl hb.size, (hb.cell (p := ⟨b, _, none⟩) hl).trans h0⟩
theorem stsAt_of {w : World} {b : Nat} {rs : List (List UInt8)} (hlt : b < w.heap.size) (h : ∀ i, i < rs.length → w.cell? ⟨b, 0 + i, none⟩ = some (.string ⟨(rs.getD i []).toArray⟩)) : StsAt w (some ⟨b, 0, none⟩) rs := fun i r hr => by
  obtain ⟨hi, e⟩ := List.getElem?_eq_some_iff.1 hr
  have h2 := h i hi
  rw [List.getD_eq_getElem?_getD, hr] at h2
  exact ⟨b, 0, rfl, hlt, h2⟩
def stV (r : List UInt8) : Value := .string ⟨r.toArray⟩
set_option maxHeartbeats 2000000 in
set_option maxRecDepth 100000 in
theorem idxSt (f : Nat) (hcall : ∀ (args : Array Value) w, (callFunc f args).run Tryz.prog w = .ok (.enter f args) w) (p : (List UInt8) → Bool) (A : Option Addr) (rs : List (List UInt8)) (n c : Nat) (w : World) (hn : rs.length = n) (hn2 : n ≤ 1000000000) (h : StsAt w A rs)
    (hp : ∀ x ∈ rs, ∀ w', Below w.heap.size w w' → Calls Tryz.prog f #[stV x] w' fun e w'' => e = .returned (.bool (p x)) ∧ Below w'.heap.size w' w'') :
    Calls Tryz.prog 127 #[.slice A n c, .func (Fn.func f) #[] #[]] w fun e w' => ∃ z : Int, e = .returned (.int .i64 z) ∧ decide (0 ≤ z) = rs.any p ∧ Below w.heap.size w w' := by
  have HI := Lib.hid h
  have HP := Lib.hid hp
  have hn1 : rs.length ≤ n := by omega
  have hn3 : n ≤ rs.length := by omega
  clear h hp hn
  go_enter Tryz.func127, Tryz.ntmps127
  go_wp2_with fail
  go_loopw [8] (fun iv wr => ∃ k : Nat, k ≤ n ∧ iv = .int .i64 (k : Int) ∧ Hid (rs.any p = (rs.drop k).any p) ∧ Below w.heap.size w wr) (fun iv _ => n - (intOf iv).toNat)
  case atStart => exact ⟨0, Nat.zero_le _, rfl, rfl, Below.refl _ _⟩
  case round =>
    obtain ⟨k, hk, rfl, HK, hb⟩ := hrel
    by_cases hlt : k < n
    · obtain ⟨x, hx⟩ : ∃ x, rs[k]? = some x := ⟨_, List.getElem?_eq_getElem (by omega)⟩
      obtain ⟨b, o, rfl, hbs, p0⟩ := (HI.out.below hb) k x hx
      have hd : rs.drop k = x :: rs.drop (k + 1) := by
        obtain ⟨hk2, rfl⟩ := List.getElem?_eq_some_iff.1 hx
        exact List.drop_eq_getElem_cons hk2
      have HD := Lib.hid hd
      have CP := HP.out x (List.mem_of_getElem? hx) wr hb
      unfold stV at CP
      have CP := Lib.hid CP
      clear hx hd
      go_wp2_with fail
      ((with_reducible refine CP.out.mono ?_); rintro e w2 ⟨rfl, hb2⟩)
      replace hb := bto hb hb2
      clear hb2 CP p0
      by_cases hq : p x = true
      · have HV : Hid (decide (0 ≤ (k : Int)) = rs.any p) := by show _ = _; rw [HK.out, HD.out, List.any_cons, hq, decide_eq_true (by omega)]; rfl
        rw [hq]
        clear hq HK HD
        go_wp2
        go_ret
        exact ⟨_, rfl, HV.out, hb⟩
      · have HV : Hid (rs.any p = (rs.drop (k + 1)).any p) := by show _ = _; rw [HK.out, HD.out, List.any_cons, not_true_b hq, Bool.false_or]
        rw [not_true_b hq]
        clear hq HK HD
        go_wp2
        go_roundw
        case rel => exact ⟨k + 1, by omega, by go_num, HV, hb⟩
        case measure => simp [intOf]; omega
    · have HV : Hid (decide (0 ≤ (-1 : Int)) = rs.any p) := by show _ = _; rw [HK.out, List.drop_of_length_le (by omega)]; rfl
      go_wp2
      go_ret
      exact ⟨_, rfl, HV.out, hb⟩
set_option maxHeartbeats 2000000 in
set_option maxRecDepth 100000 in
theorem conSt (f : Nat) (hcall : ∀ (args : Array Value) w, (callFunc f args).run Tryz.prog w = .ok (.enter f args) w) (p : (List UInt8) → Bool) (A : Option Addr) (rs : List (List UInt8)) (n c : Nat) (w : World) (hn : rs.length = n) (hn2 : n ≤ 1000000000) (h : StsAt w A rs)
    (hp : ∀ x ∈ rs, ∀ w', Below w.heap.size w w' → Calls Tryz.prog f #[stV x] w' fun e w'' => e = .returned (.bool (p x)) ∧ Below w'.heap.size w' w'') :
    Calls Tryz.prog 60 #[.slice A n c, .func (Fn.func f) #[] #[]] w fun e w' => e = .returned (.bool (rs.any p)) ∧ Below w.heap.size w w' := by
  have C1 := Lib.hid (idxSt f hcall p A rs n c w hn hn2 h hp)
  clear hn h hp
  go_enter Tryz.func60, Tryz.ntmps60
  go_wp2_with fail
  refine C1.out.mono ?_
  rintro e w2 ⟨z, rfl, hz, hb⟩
  have HZ := Lib.hid hz
  clear hz
  by_cases g : 0 ≤ z
  · have e1 : decide (0 ≤ z) = true := decide_eq_true g
    go_wp2
    go_ret
    exact ⟨by rw [← HZ.out, e1]; rfl, hb⟩
  · have e1 : decide (0 ≤ z) = false := decide_eq_false g
    go_wp2
    go_ret
    exact ⟨by rw [← HZ.out, e1]; rfl, hb⟩
def longS (r : List UInt8) : Bool := decide (13 < r.length)
theorem greatClo (r : List UInt8) (w : World) : Calls Tryz.prog 61 #[stV r] w fun e w' => e = .returned (.bool (longS r)) ∧ Below w.heap.size w w' := by
  unfold stV longS
  have HV : Hid (decide ((13 : Int) < (r.length : Int)) = decide (13 < r.length)) := by show _ = _; rw [decide_eq_decide]; omega
  go_enter Tryz.func61, Tryz.ntmps61
  go_wp2
  go_ret
  exact ⟨retb HV.out, Below.refl _ _⟩
theorem enter_g1 (args : Array Value) (w : World) : (callFunc 61 args).run Tryz.prog w = .ok (.enter 61 args) w := by kernel_rfl
structure Fine12 (x : Ins) (qs : List (List UInt8)) : Prop where
  small : x.Small
  tiny : x.Tiny
  nums : ∀ q ∈ qs, q.length ≤ 13
set_option maxHeartbeats 4000000 in
set_option maxRecDepth 100000 in
theorem lGreat (x : Ins) (A : Option Addr) (qs : List (List UInt8)) (n c : Nat) (w : World) (hn : qs.length = n) (hn2 : n ≤ 1000000000) (h : StsAt w A qs) :
    Calls Tryz.prog 14 #[(Value.agg #[Value.string ⟨List.toArray x.id⟩, Value.int .i64 x.kind, Value.string ⟨List.toArray x.cur⟩, Value.int .i64 x.places, Value.int .i64 x.issued, Value.int .i64 x.matures, Value.string ⟨List.toArray x.fn⟩, Value.string ⟨List.toArray x.fd⟩, Value.string ⟨List.toArray x.cn⟩, Value.string ⟨List.toArray x.cd⟩, Value.int .i64 x.months, Value.int .i64 x.count, Value.string ⟨List.toArray x.other⟩, Value.string ⟨List.toArray x.sn⟩, Value.string ⟨List.toArray x.sd⟩]), .slice A n c] w fun e w' => ∃ b, e = .returned (.bool b) ∧ (b = false → Fine12 x qs) ∧ Below w.heap.size w w' := by
  have CS := Lib.hid (fun (w' : World) (hb : Below w.heap.size w w') => conSt _ enter_g1 longS A qs n c w' hn hn2 (h.below hb) (fun q _ w2 _ => greatClo q w2))
  have CL := Lib.hid (fun (w' : World) (b : Nat) (h : FrAt w' (some ⟨b, 0, none⟩) [(x.fn, x.fd), (x.cn, x.cd), (x.sn, x.sd)]) => lLong (some ⟨b, 0, none⟩) [(x.fn, x.fd), (x.cn, x.cd), (x.sn, x.sd)] 3 3 w' rfl (by decide) h)
  clear h hn hn2
  go_enter Tryz.func14, Tryz.ntmps14
  have x2' := (IBox.new w x 27)
  have qx2_0 := x2'.c0
  have qx2_1 := x2'.c1
  have qx2_2 := x2'.c2
  have qx2_3 := x2'.c3
  have qx2_4 := x2'.c4
  have qx2_5 := x2'.c5
  have qx2_6 := x2'.c6
  have qx2_7 := x2'.c7
  have qx2_8 := x2'.c8
  have qx2_9 := x2'.c9
  have qx2_10 := x2'.c10
  have qx2_11 := x2'.c11
  have qx2_12 := x2'.c12
  have qx2_13 := x2'.c13
  have qx2_14 := x2'.c14
  go_wp2_with fail
  refine (CL.out _ _ (frAt_of (by first | (simp; done) | (simp; omega)) (fun i hi => by
    have hi : i = 0 ∨ i = 1 ∨ i = 2 := by simp at hi; omega
    rcases hi with rfl | rfl | rfl <;> simp [go_sem]))).mono ?_
  rintro e w1 ⟨rfl, hb1'⟩
  have hb1 := bto (below_alloc _ _) hb1'
  have x2 := x2'.below hb1
  have hb := bto (below_alloc _ _) hb1
  clear qx2_0 qx2_1 qx2_2 qx2_3 qx2_4 qx2_5 qx2_6 qx2_7 qx2_8 qx2_9 qx2_10 qx2_11 qx2_12 qx2_13 qx2_14
  clear hb1 hb1' x2' CL
  have qx2_0 := x2.c0
  have qx2_1 := x2.c1
  have qx2_2 := x2.c2
  have qx2_3 := x2.c3
  have qx2_4 := x2.c4
  have qx2_5 := x2.c5
  have qx2_6 := x2.c6
  have qx2_7 := x2.c7
  have qx2_8 := x2.c8
  have qx2_9 := x2.c9
  have qx2_10 := x2.c10
  have qx2_11 := x2.c11
  have qx2_12 := x2.c12
  have qx2_13 := x2.c13
  have qx2_14 := x2.c14
  by_cases gL : [(x.fn, x.fd), (x.cn, x.cd), (x.sn, x.sd)].any longF = true
  · rw [gL]
    clear gL
    go_wp2
    go_ret
    exact ⟨true, rfl, fun h => (by cases h), hb⟩
  have HL := Lib.hid (not_true_b gL)
  rw [not_true_b gL]
  clear gL
  by_cases g0 : 40 < x.id.length
  · have e0 : decide (40 < x.id.length) = true := decide_eq_true g0
    have f0 : decide ((40 : Int) < (x.id.length : Int)) = true := decide_eq_true (by omega)
    clear g0
    go_wp2
    go_ret
    exact ⟨true, rfl, fun h => (by cases h), hb⟩
  have e0 : decide (40 < x.id.length) = false := decide_eq_false g0
  have f0 : decide ((40 : Int) < (x.id.length : Int)) = false := decide_eq_false (by omega)
  have H0 := Lib.hid (Nat.le_of_not_lt g0)
  clear g0
  by_cases g1 : 10 < x.cur.length
  · have e1 : decide (10 < x.cur.length) = true := decide_eq_true g1
    have f1 : decide ((10 : Int) < (x.cur.length : Int)) = true := decide_eq_true (by omega)
    clear g1
    go_wp2
    go_ret
    exact ⟨true, rfl, fun h => (by cases h), hb⟩
  have e1 : decide (10 < x.cur.length) = false := decide_eq_false g1
  have f1 : decide ((10 : Int) < (x.cur.length : Int)) = false := decide_eq_false (by omega)
  have H1 := Lib.hid (Nat.le_of_not_lt g1)
  clear g1
  by_cases g2 : 10 < x.other.length
  · have e2 : decide (10 < x.other.length) = true := decide_eq_true g2
    have f2 : decide ((10 : Int) < (x.other.length : Int)) = true := decide_eq_true (by omega)
    clear g2
    go_wp2
    go_ret
    exact ⟨true, rfl, fun h => (by cases h), hb⟩
  have e2 : decide (10 < x.other.length) = false := decide_eq_false g2
  have f2 : decide ((10 : Int) < (x.other.length : Int)) = false := decide_eq_false (by omega)
  have H2 := Lib.hid (Nat.le_of_not_lt g2)
  clear g2
  go_wp2_with fail
  refine (CS.out _ hb).mono ?_
  rintro e w2 ⟨rfl, hb2⟩
  replace hb := bto hb hb2
  obtain ⟨T, hT⟩ : ∃ T, T = qs.any longS := ⟨_, rfl⟩
  rw [← hT]
  have HT := Lib.hid hT
  clear qx2_0 qx2_1 qx2_2 qx2_3 qx2_4 qx2_5 qx2_6 qx2_7 qx2_8 qx2_9 qx2_10 qx2_11 qx2_12 qx2_13 qx2_14
  clear hT hb2 CS x2
  go_wp2
  go_ret
  refine ⟨T, rfl, fun hTf => ?_, hb⟩
  have h1 := HL.out
  simp only [List.any_cons, List.any_nil, Bool.or_false, Bool.or_eq_false_iff] at h1
  have a1 := longF_no h1.1
  have a2 := longF_no h1.2.1
  have a3 := longF_no h1.2.2
  have b0 := H0.out
  have b1 := H1.out
  have b2 := H2.out
  refine ⟨⟨by omega, by omega, by omega, Nat.le_trans a1.1 (by decide), Nat.le_trans a1.2 (by decide), Nat.le_trans a2.1 (by decide), Nat.le_trans a2.2 (by decide), Nat.le_trans a3.1 (by decide), Nat.le_trans a3.2 (by decide)⟩, ⟨Nat.le_trans a3.1 (by decide), Nat.le_trans a3.2 (by decide)⟩, fun q hq => ?_⟩
  have h2 := HT.out
  rw [hTf] at h2
  have h3 := List.any_eq_false.1 h2.symm q hq
  unfold longS at h3
  simp at h3
  omega
def exI : Ins := ⟨[102, 119, 100], 5, [69, 85, 82], 2, 100, 200, [], [], [], [], 0, 0, [85, 83, 68], [49, 49], [49, 48]⟩
set_option maxHeartbeats 1000000 in
set_option maxRecDepth 100000 in
theorem lExample : Ret 66 #[] (.agg #[.string ⟨#[102, 119, 100]⟩, .int .i64 5, .string ⟨#[69, 85, 82]⟩, .int .i64 2, .int .i64 100, .int .i64 200, .string ⟨#[]⟩, .string ⟨#[]⟩, .string ⟨#[]⟩, .string ⟨#[]⟩, .int .i64 0, .int .i64 0, .string ⟨#[85, 83, 68]⟩, .string ⟨#[49, 49]⟩, .string ⟨#[49, 48]⟩]) := fun w _ => by
  go_enter Tryz.func66, Tryz.ntmps66
  go_wp2
  refine bodyPost_ret (v := .agg #[.string ⟨#[102, 119, 100]⟩, .int .i64 5, .string ⟨#[69, 85, 82]⟩, .int .i64 2, .int .i64 100, .int .i64 200, .string ⟨#[]⟩, .string ⟨#[]⟩, .string ⟨#[]⟩, .string ⟨#[]⟩, .int .i64 0, .int .i64 0, .string ⟨#[85, 83, 68]⟩, .string ⟨#[49, 49]⟩, .string ⟨#[49, 48]⟩]) (by simp [results, Tryz.results66, go_sem]) rfl ?_
  exact ⟨rfl, below_alloc _ _⟩
theorem exI_small : exI.Small := by constructor <;> decide
theorem exI_tiny : exI.Tiny := by constructor <;> decide
theorem aw_v : presV exI [49, 48, 48, 48] ([50, 51], [50, 48]) ([], []) ([], []) = ([53, 48], 0) := by decide +kernel
theorem aw_s : setV exI [49, 48, 48, 48] = ([⟨[69, 85, 82], [49, 48, 48, 48]⟩, ⟨[85, 83, 68], [45, 49, 49, 48, 48]⟩], 0) := by decide +kernel
theorem aw_f : fairV ([50], []) ([49], [49, 48]) ([49], [50, 48]) ([49], []) = (Rat.divInt 44 21, 0) := by decide +kernel
theorem aw_n : fN (Rat.divInt 44 21) = [52, 52] ∧ fD (Rat.divInt 44 21) = [50, 49] := by decide +kernel
def sameP (a b c d : List UInt8) : Bool := (a == c) && ((b == d) && true)
theorem sameP_self (a b : List UInt8) : sameP a b a b = true := by simp [sameP]
set_option maxRecDepth 100000 in
theorem eqP1 (a b c d : List UInt8) (w : World) : (Op.equalIn 10000 25 (.agg #[.string ⟨a.toArray⟩, .string ⟨b.toArray⟩]) (.agg #[.string ⟨c.toArray⟩, .string ⟨d.toArray⟩])).run Tryz.prog w = .ok (sameP a b c d) w := by
  have hS : Tryz.prog.underlying 25 = some (.struct (Tryz.prog.fieldsOf 25)) := by kernel_rfl
  have hp : Tryz.prog.stoodInHeld 25 = false := by kernel_rfl
  rw [show (10000 : Nat) = 9999 + 1 from rfl, run_equalIn_agg w 9999 25 _ _ hS hp]
  simp only [Program.fieldsOf, Tryz.underlying25]
  unfold sameP
  exact (eqf_step (by decide) (a := .string ⟨a.toArray⟩) (b := .string ⟨c.toArray⟩) (by go_simp) (by go_simp) (by rw [run_equalIn_string w 9998 _ _ _ Tryz.underlying23]; simp) (eqf_step (by decide) (a := .string ⟨b.toArray⟩) (b := .string ⟨d.toArray⟩) (by go_simp) (by go_simp) (by rw [run_equalIn_string w 9998 _ _ _ Tryz.underlying23]; simp) eqf_nil))
theorem guardP : Tryz.prog.eqGuardType Tryz.prog.depth 25 = false := by kernel_rfl
theorem max3z {P : Program} (ts : Array TypeId) (t : TypeId) (w : World) : (Builtin.max_ ts t #[.int .i64 0, .int .i64 0, .int .i64 0]).run P w = .ok (.int .i64 0) w := by
  simp [Builtin.max_, Builtin.max2]
set_option maxHeartbeats 8000000 in
set_option maxRecDepth 100000 in
theorem wAwake12 : Ret 18 #[] (.bool true) := fun w hG => by
  have hb := Below.refl w.heap.size w
  have C0 := Lib.hid lExample
  have c1 := fValue exI exI_small [49, 48, 48, 48] (by decide) ([50, 51], [50, 48]) ⟨by decide, by decide⟩
  rw [aw_v] at c1
  have C1 := Lib.hid c1
  have c2 := fun w' hG' => fSettle exI exI_small exI_tiny [49, 48, 48, 48] (by decide) w' hG'
  rw [aw_s] at c2
  have C2 := Lib.hid c2
  have c3 := fFair ([50], []) ([49], [49, 48]) ([49], [50, 48]) ([49], []) ⟨by decide, by decide⟩ ⟨by decide, by decide⟩ ⟨by decide, by decide⟩ ⟨by decide, by decide⟩
  rw [aw_f] at c3
  dsimp only at c3
  rw [aw_n.1, aw_n.2] at c3
  have C3 := Lib.hid c3
  clear c1 c2 c3
  go_enter Tryz.func18, Tryz.ntmps18
  go_wp2_with fail
  ((with_reducible refine (C0.out.of hG hb).mono ?_); rintro e w1 ⟨rfl, hb1⟩)
  replace hb := bto hb hb1
  clear hb1
  go_wp2_with fail
  refine (C1.out.of hG hb).mono ?_
  rintro e w2 ⟨rfl, hb2⟩
  replace hb := bto hb hb2
  clear hb2 C1
  go_wp2_with fail
  ((with_reducible refine (C0.out.of hG hb).mono ?_); rintro e w3 ⟨rfl, hb3⟩)
  replace hb := bto hb hb3
  clear hb3
  go_wp2_with fail
  refine (C2.out _ (hG.below hb)).mono ?_
  rintro e w4 ⟨B, m, cp, rfl, hm, hcp, hM, hb4⟩
  replace hb := bto hb hb4
  clear hb4 C2
  go_wp2_with fail
  refine (C3.out.of hG hb).mono ?_
  rintro e w5 ⟨rfl, hb5⟩
  have hbA := below_alloc w5 (.cells #[.string ⟨([52, 52] : List UInt8).toArray⟩, .string ⟨([50, 49] : List UInt8).toArray⟩] 25)
  have x5 := FBox.new w5 (.string ⟨([52, 52] : List UInt8).toArray⟩) (.string ⟨([50, 49] : List UInt8).toArray⟩) 25
  replace hb5 := bto hb5 hbA
  replace hM := hM.below hb5
  replace hb := bto hb hb5
  clear hb5 hbA C3 C0
  have hmax : ∀ (ts : Array TypeId) (t : TypeId) (w : World), (Builtin.max_ ts t #[.int .i64 0, .int .i64 0, .int .i64 0]).run Tryz.prog w = .ok (.int .i64 0) w := fun ts t w => max3z ts t w
  go_wp2_with fail
  obtain ⟨w6, hw6⟩ : ∃ w6, w6 = w5.alloc (.cells #[.string ⟨([52, 52] : List UInt8).toArray⟩, .string ⟨([50, 49] : List UInt8).toArray⟩] 25) := ⟨_, rfl⟩
  have hs6 : w5.heap.size + 1 = w6.heap.size := by rw [hw6]; exact (World.size_alloc _ _).symm
  rw [← hw6] at x5 hM hb
  rw [← hw6]
  (try rw [hs6])
  have hX := two_at (a := [69, 85, 82]) (b := [49, 48, 48, 48]) (c := [85, 83, 68]) (d := [45, 49, 49, 48, 48]) (w := w6) rfl
  have hbB := below_alloc w6 (.cells #[.string ⟨([69, 85, 82] : List UInt8).toArray⟩, .string ⟨([49, 48, 48, 48] : List UInt8).toArray⟩, .string ⟨([85, 83, 68] : List UInt8).toArray⟩, .string ⟨([45, 49, 49, 48, 48] : List UInt8).toArray⟩] 48)
  have CE := eqMs B (some ⟨w6.heap.size, 0, none⟩) [⟨[69, 85, 82], [49, 48, 48, 48]⟩, ⟨[85, 83, 68], [45, 49, 49, 48, 48]⟩] [⟨[69, 85, 82], [49, 48, 48, 48]⟩, ⟨[85, 83, 68], [45, 49, 49, 48, 48]⟩] m 2 cp 2 _ hm rfl (by simp at hm; omega) (by decide) (hM.below hbB) hX
  rw [sameMs_self] at CE
  refine CE.mono ?_
  rintro e w7 ⟨rfl, hb7⟩
  have hb8 := bto hbB hb7
  replace x5 := x5.below hb8
  replace hb := bto hb hb8
  have q0 := x5.c0
  have q1 := x5.c1
  have hE := fun (w : World) => eqP1 [52, 52] [50, 49] [52, 52] [50, 49] w
  simp only [sameP_self] at hE
  have hEG := guardP
  clear CE hX hM hm hcp hbB hb7 hb8 hw6 hs6
  go_wp2
  go_ret
  exact ⟨rfl, hb⟩
end Go.Proofs.YtgnppdkeiihlfaaGreatDoor
namespace Go.Proofs.YtgnppdkeiihlfaaGreatDoor
open Go.RowKit Num
theorem setV_ok {x : Ins} {q : List UInt8} (h : (setV x q).2 = 0) : okB x q = true ∧ setV x q = (setL x q, 0) := by
  unfold setV at h ⊢
  by_cases g : okB x q = true
  · rw [if_neg (fun e => e g)]; exact ⟨g, rfl⟩
  · rw [if_pos g] at h; exact absurd h (by decide)
theorem setV_bad {x : Ins} {q : List UInt8} (h : ¬ (setV x q).2 = 0) : (setV x q).1 = [] := by
  unfold setV at h ⊢
  by_cases g : okB x q = true
  · rw [if_neg (fun e => e g)] at h; exact absurd rfl h
  · rw [if_pos g]
end Go.Proofs.YtgnppdkeiihlfaaGreatDoor
namespace Go.Proofs.YtgnppdkeiihlfaaGreatDoor
open Go.ChangeShapes Go.WideShapes Go.ChangeAt Go.RowKit
section
variable {H : Type} {enc : TypeId × Value → H} {w : World} {base : Nat} {spare : Nat → Bool} {held : Bool}
theorem cz_str : Tryz.prog.cellsOf 9 = 1 := by kernel_rfl
theorem cz_int : Tryz.prog.cellsOf 3 = 1 := by kernel_rfl
theorem cz_day : Tryz.prog.cellsOf 22 = 1 := by kernel_rfl
theorem cz_ai : Tryz.prog.cellsOf 23 = 1 := by kernel_rfl
theorem cz_frac : Tryz.prog.cellsOf 25 = 2 := by kernel_rfl
theorem cz_ins : Tryz.prog.cellsOf 27 = 15 := by kernel_rfl
theorem field_at {n : Nat} {fs : Array Field} {cs : List Value} {xs : List (DataW H × List MemPlace)} (hf : ∀ (i : Nat) (f : Field), fs[i]? = some f → DataW.trod enc Tryz.prog w base spare held n f.type ((cs.drop f.offset).take (Tryz.prog.cellsOf f.type)) = xs[i]?)
    (i : Nat) (ty : TypeId) (off : Nat) (f : Field) (h1 : fs[i]? = some f) (h2 : f.type = ty) (h3 : f.offset = off) (k : Nat) (h4 : Tryz.prog.cellsOf ty = k) (h5 : i < xs.length) : DataW.trod enc Tryz.prog w base spare held n ty ((cs.drop off).take k) = some (xs[i]'h5) := by
  have h := hf i f h1
  rw [h2, h3, h4, List.getElem?_eq_getElem h5] at h
  exact h
set_option maxRecDepth 10000 in
theorem frac_of_trod {fuel : Nat} {c0 c1 : Value} {x : DataW H × List MemPlace} (h : DataW.trod enc Tryz.prog w base spare held fuel 25 [c0, c1] = some x) : ∃ l l' : List UInt8, c0 = .string ⟨l.toArray⟩ ∧ c1 = .string ⟨l'.toArray⟩ := by
  obtain ⟨xs, n, -, -, -, hxl, hf⟩ := DataW.trod_struct Tryz.underlying25 h
  have hxl : xs.length = 2 := hxl
  have h0 : DataW.trod enc Tryz.prog w base spare held n 23 [c0] = some (xs[0]'(by omega)) := field_at hf 0 23 0 _ rfl rfl rfl 1 cz_ai (by omega)
  have h1 : DataW.trod enc Tryz.prog w base spare held n 23 [c1] = some (xs[1]'(by omega)) := field_at hf 1 23 1 _ rfl rfl rfl 1 cz_ai (by omega)
  obtain ⟨s0, e0, -, -⟩ := DataW.trod_string Tryz.underlying23 h0
  obtain ⟨s1, e1, -, -⟩ := DataW.trod_string Tryz.underlying23 h1
  injection e0 with e0
  injection e1 with e1
  exact ⟨s0.data.toList, s1.data.toList, e0, e1⟩
set_option maxRecDepth 10000 in
theorem ins_of_trod {fuel : Nat} {cs : List Value} {x : DataW H × List MemPlace} (h : DataW.trod enc Tryz.prog w base spare held fuel 27 cs = some x) : ∃ y : Ins, cs = (#[Value.string ⟨List.toArray y.id⟩, Value.int .i64 y.kind, Value.string ⟨List.toArray y.cur⟩, Value.int .i64 y.places, Value.int .i64 y.issued, Value.int .i64 y.matures, Value.string ⟨List.toArray y.fn⟩, Value.string ⟨List.toArray y.fd⟩, Value.string ⟨List.toArray y.cn⟩, Value.string ⟨List.toArray y.cd⟩, Value.int .i64 y.months, Value.int .i64 y.count, Value.string ⟨List.toArray y.other⟩, Value.string ⟨List.toArray y.sn⟩, Value.string ⟨List.toArray y.sd⟩]).toList := by
  obtain ⟨xs, n, -, -, hlen, hxl, hf⟩ := DataW.trod_struct Tryz.underlying27 h
  rw [cz_ins] at hlen
  have hxl : xs.length = 12 := hxl
  match cs, hlen with
  | [c0, c1, c2, c3, c4, c5, c6, c7, c8, c9, c10, c11, c12, c13, c14], _ =>
    have h0 : DataW.trod enc Tryz.prog w base spare held n 9 [c0] = some (xs[0]'(by omega)) := field_at hf 0 9 0 _ rfl rfl rfl 1 cz_str (by omega)
    have h1 : DataW.trod enc Tryz.prog w base spare held n 3 [c1] = some (xs[1]'(by omega)) := field_at hf 1 3 1 _ rfl rfl rfl 1 cz_int (by omega)
    have h2 : DataW.trod enc Tryz.prog w base spare held n 9 [c2] = some (xs[2]'(by omega)) := field_at hf 2 9 2 _ rfl rfl rfl 1 cz_str (by omega)
    have h3 : DataW.trod enc Tryz.prog w base spare held n 3 [c3] = some (xs[3]'(by omega)) := field_at hf 3 3 3 _ rfl rfl rfl 1 cz_int (by omega)
    have h4 : DataW.trod enc Tryz.prog w base spare held n 22 [c4] = some (xs[4]'(by omega)) := field_at hf 4 22 4 _ rfl rfl rfl 1 cz_day (by omega)
    have h5 : DataW.trod enc Tryz.prog w base spare held n 22 [c5] = some (xs[5]'(by omega)) := field_at hf 5 22 5 _ rfl rfl rfl 1 cz_day (by omega)
    have h6 : DataW.trod enc Tryz.prog w base spare held n 25 [c6, c7] = some (xs[6]'(by omega)) := field_at hf 6 25 6 _ rfl rfl rfl 2 cz_frac (by omega)
    have h7 : DataW.trod enc Tryz.prog w base spare held n 25 [c8, c9] = some (xs[7]'(by omega)) := field_at hf 7 25 8 _ rfl rfl rfl 2 cz_frac (by omega)
    have h8 : DataW.trod enc Tryz.prog w base spare held n 3 [c10] = some (xs[8]'(by omega)) := field_at hf 8 3 10 _ rfl rfl rfl 1 cz_int (by omega)
    have h9 : DataW.trod enc Tryz.prog w base spare held n 3 [c11] = some (xs[9]'(by omega)) := field_at hf 9 3 11 _ rfl rfl rfl 1 cz_int (by omega)
    have h10 : DataW.trod enc Tryz.prog w base spare held n 9 [c12] = some (xs[10]'(by omega)) := field_at hf 10 9 12 _ rfl rfl rfl 1 cz_str (by omega)
    have h11 : DataW.trod enc Tryz.prog w base spare held n 25 [c13, c14] = some (xs[11]'(by omega)) := field_at hf 11 25 13 _ rfl rfl rfl 2 cz_frac (by omega)
    obtain ⟨s0, e0, -, -⟩ := DataW.trod_string Tryz.underlying9 h0
    obtain ⟨s1, e1, -, -⟩ := DataW.trod_int Tryz.underlying3 h1
    obtain ⟨s2, e2, -, -⟩ := DataW.trod_string Tryz.underlying9 h2
    obtain ⟨s3, e3, -, -⟩ := DataW.trod_int Tryz.underlying3 h3
    obtain ⟨s4, e4, -, -⟩ := DataW.trod_int Tryz.underlying22 h4
    obtain ⟨s5, e5, -, -⟩ := DataW.trod_int Tryz.underlying22 h5
    obtain ⟨s6, s7, e6, e7⟩ := frac_of_trod h6
    obtain ⟨s8, s9, e8, e9⟩ := frac_of_trod h7
    obtain ⟨s10, e10, -, -⟩ := DataW.trod_int Tryz.underlying3 h8
    obtain ⟨s11, e11, -, -⟩ := DataW.trod_int Tryz.underlying3 h9
    obtain ⟨s12, e12, -, -⟩ := DataW.trod_string Tryz.underlying9 h10
    obtain ⟨s13, s14, e13, e14⟩ := frac_of_trod h11
    injection e0 with e0
    injection e1 with e1
    injection e2 with e2
    injection e3 with e3
    injection e4 with e4
    injection e5 with e5
    injection e10 with e10
    injection e11 with e11
    injection e12 with e12
    subst e0 e1 e2 e3 e4 e5 e6 e7 e8 e9 e10 e11 e12 e13 e14
    exact ⟨⟨s0.data.toList, s1, s2.data.toList, s3, s4, s5, s6, s7, s8, s9, s10, s11, s12.data.toList, s13, s14⟩, rfl⟩
set_option maxRecDepth 10000 in
theorem open_ins {r : Reach} {b0 : Nat} {v : Value} {d : DataW H} {p : List MemPlace} (hv : Value.okWide Tryz.prog w r b0 27 v) (h : DataW.Trod enc Tryz.prog w base spare held 27 v d p) : ∃ x : Ins, v = (Value.agg #[Value.string ⟨List.toArray x.id⟩, Value.int .i64 x.kind, Value.string ⟨List.toArray x.cur⟩, Value.int .i64 x.places, Value.int .i64 x.issued, Value.int .i64 x.matures, Value.string ⟨List.toArray x.fn⟩, Value.string ⟨List.toArray x.fd⟩, Value.string ⟨List.toArray x.cn⟩, Value.string ⟨List.toArray x.cd⟩, Value.int .i64 x.months, Value.int .i64 x.count, Value.string ⟨List.toArray x.other⟩, Value.string ⟨List.toArray x.sn⟩, Value.string ⟨List.toArray x.sd⟩]) := by
  obtain ⟨cs, rfl, hsz⟩ := okWide_struct Tryz.underlying27 hv
  obtain ⟨fuel, hf⟩ := h
  obtain ⟨x, hx⟩ := ins_of_trod hf
  obtain ⟨l⟩ := cs
  exact ⟨x, by rw [show l = _ from hx]⟩
end
end Go.Proofs.YtgnppdkeiihlfaaGreatDoor
