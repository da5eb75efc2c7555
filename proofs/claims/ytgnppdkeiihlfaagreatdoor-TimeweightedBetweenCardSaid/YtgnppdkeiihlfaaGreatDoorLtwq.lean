/- The law TimeweightedBetween. -/
import Derived.Test.YtgnppdkeiihlfaaGreatDoorT12
namespace Go.Proofs.YtgnppdkeiihlfaaGreatDoor
open Go.RowKit Num
theorem wpList_call {P : Program} {w : World} {ops : Array Oper} {rest : List Oper} {o : Oper} {a : Act} {Q : Exit → Act → World → Prop} (hgd : o.guard = none) (f : FuncId) (args : Array Value) (h : (execOp a.eval o).run P w = .ok (.enter f args) w)
    (hc : Calls P f args w fun e w' => ∃ v, e = .returned v ∧ wpList P ops Q rest (a.put o.dst v) w') : wpList P ops Q (o :: rest) a w := by
  refine wpList_plain hgd fun K hK => ?_
  unfold Oper.wp
  rw [h]
  simp only [Oper.upon]
  exact hc.mono fun e w' ⟨v, he, hw⟩ => by subst he; exact hK _ _ hw
theorem Blk.setSame {w : World} {b : Nat} {cs : Array Value} (h : Blk w b cs) (i : Nat) (v : Value) : Blk (w.setCell ⟨b, i, none⟩ v) b (cs.setIfInBounds i v) := by
  obtain ⟨t, h⟩ := h
  refine ⟨t, ?_⟩
  obtain ⟨hlt, hk⟩ := Array.getElem?_eq_some_iff.1 h
  show (w.heap.modify b _)[b]? = _
  rw [Array.getElem?_eq_getElem (by rw [Array.size_modify]; exact hlt), Array.getElem_modify_self, hk]
  simp
set_option maxHeartbeats 8000000 in
set_option maxRecDepth 100000 in
theorem between_law (A : Option Addr) (ts : List Pnt) (n c : Nat) (d : Int) (x : Pnt) (hx : x.vl.length ≤ 9223372036854775807) (hd0 : 0 ≤ d) (hd1 : d ≤ 255) (w : World) (hG : Glob w) (hn : ts.length = n) (_hnc : n ≤ c) (hnm : n ≤ 9223372036854775807) (h : PntAt w A ts) :
    Calls Tryz.prog 13 #[.slice A n c, .int .u8 d, .agg #[.int .i64 x.day, .string ⟨x.vl.toArray⟩, .string ⟨x.fl.toArray⟩]] w fun e w' => e = .returned (.bool true) ∧ Below w.heap.size w w' := by
  have CW := Lib.hid wAwake46
  have hb := below_alloc w (.cells #[.int .i64 x.day, .string ⟨x.vl.toArray⟩, .string ⟨x.fl.toArray⟩] 74)
  have x5 := Blk.new w #[.int .i64 x.day, .string ⟨x.vl.toArray⟩, .string ⟨x.fl.toArray⟩] 74
  have CF := Lib.hid (rFine A ts n c (w.alloc (.cells #[.int .i64 x.day, .string ⟨x.vl.toArray⟩, .string ⟨x.fl.toArray⟩] 74)) (hG.below hb) hn hnm (h.below hb))
  have HI := Lib.hid h
  have HN := Lib.hid hn
  clear h hn
  go_enter Tryz.func13, Tryz.ntmps13
  go_wp2_with fail
  refine CF.out.mono ?_
  rintro e w2 ⟨b, rfl, hq, hb2⟩
  replace x5 := x5.below hb2
  replace hb := bto hb hb2
  clear hb2 CF
  cases b
  · clear hq
    go_wp2_with fail
    ((with_reducible refine (CW.out.of hG hb).mono ?_); rintro e w99 ⟨rfl, hb99⟩)
    go_wp2
    go_ret
    exact ⟨rfl, bto hb hb99⟩
  obtain ⟨HQ0, g0⟩ := hq rfl
  have HStr := Lib.hid HQ0.str
  have HG0 := Lib.hid g0
  clear hq HQ0 g0
  by_cases h11 : 11 < n
  · have e1 : decide (11 < n) = true := decide_eq_true h11
    have e2 : decide ((11 : Int) < (n : Int)) = true := decide_eq_true (by omega)
    go_wp2_with fail
    ((with_reducible refine (CW.out.of hG hb).mono ?_); rintro e w99 ⟨rfl, hb99⟩)
    go_wp2
    go_ret
    exact ⟨rfl, bto hb hb99⟩
  have e1 : decide (11 < n) = false := decide_eq_false h11
  have e2 : decide ((11 : Int) < (n : Int)) = false := decide_eq_false (by omega)
  by_cases h2 : n < 2
  · have e3 : decide (n < 2) = true := decide_eq_true h2
    have e4 : decide ((n : Int) < 2) = true := decide_eq_true (by omega)
    go_wp2_with fail
    ((with_reducible refine (CW.out.of hG hb).mono ?_); rintro e w99 ⟨rfl, hb99⟩)
    go_wp2
    go_ret
    exact ⟨rfl, bto hb hb99⟩
  have e3 : decide (n < 2) = false := decide_eq_false h2
  have e4 : decide ((n : Int) < 2) = false := decide_eq_false (by omega)
  have p1 := x5.c 1
  have p1 : w2.cell? ⟨w.heap.size, 1, none⟩ = some (.string ⟨x.vl.toArray⟩) := p1
  by_cases gc : x.vl = canon (val x.vl)
  rotate_left
  · have C1 := Lib.hid (qCheckBig (l := x.vl) (c := 1) hx (if_neg gc))
    clear gc
    go_wp2_with fail
    ((with_reducible refine (C1.out.of hG hb).mono ?_); rintro e w3 ⟨rfl, hb3⟩)
    replace hb := bto hb hb3
    clear hb3 C1 p1
    go_wp2_with fail
    ((with_reducible refine (CW.out.of hG hb).mono ?_); rintro e w99 ⟨rfl, hb99⟩)
    go_wp2
    go_ret
    exact ⟨rfl, bto hb hb99⟩
  have C1 := Lib.hid (qCheckBig (l := x.vl) (c := 0) hx (if_pos gc))
  obtain ⟨sgn, hsg⟩ : ∃ s, cmpZ (val x.vl) 0 = s := ⟨_, rfl⟩
  have C2 := Lib.hid (qSignBig (l := x.vl) hx hsg)
  have C3 := Lib.hid (qGreatB (l := x.vl))
  have HC := Lib.hid gc
  have HS := Lib.hid hsg
  clear gc hsg
  go_wp2_with fail
  ((with_reducible refine (C1.out.of hG hb).mono ?_); rintro e w3 ⟨rfl, hb3⟩)
  replace x5 := x5.below hb3
  replace hb := bto hb hb3
  clear hb3 C1 p1
  have p1 : w3.cell? ⟨w.heap.size, 1, none⟩ = some (.string ⟨x.vl.toArray⟩) := x5.c 1
  by_cases gs : sgn ≤ 0
  · have e5 : decide (sgn ≤ 0) = true := decide_eq_true gs
    clear gs
    go_wp2_with fail
    ((with_reducible refine (C2.out.of hG hb).mono ?_); rintro e w4 ⟨rfl, hb4⟩)
    replace hb := bto hb hb4
    clear hb4 C2 p1
    go_wp2_with fail
    ((with_reducible refine (CW.out.of hG hb).mono ?_); rintro e w99 ⟨rfl, hb99⟩)
    go_wp2
    go_ret
    exact ⟨rfl, bto hb hb99⟩
  have e5 : decide (sgn ≤ 0) = false := decide_eq_false gs
  have HP : Hid (0 < val x.vl) := by
    show _ < _
    have e := HS.out
    unfold cmpZ at e
    by_cases a1 : val x.vl < 0
    · rw [if_pos a1] at e; omega
    · rw [if_neg a1] at e
      by_cases a2 : 0 < val x.vl
      · exact a2
      · rw [if_neg a2] at e; omega
  clear gs
  go_wp2_with fail
  ((with_reducible refine (C2.out.of hG hb).mono ?_); rintro e w4 ⟨rfl, hb4⟩)
  replace x5 := x5.below hb4
  replace hb := bto hb hb4
  clear hb4 C2 p1
  have p1 : w4.cell? ⟨w.heap.size, 1, none⟩ = some (.string ⟨x.vl.toArray⟩) := x5.c 1
  by_cases g60 : 60 < x.vl.length
  · rw [decide_eq_true g60] at C3
    clear g60
    go_wp2_with fail
    ((with_reducible refine (C3.out.of hG hb).mono ?_); rintro e w5 ⟨rfl, hb5⟩)
    replace hb := bto hb hb5
    clear hb5 C3 p1
    go_wp2_with fail
    ((with_reducible refine (CW.out.of hG hb).mono ?_); rintro e w99 ⟨rfl, hb99⟩)
    go_wp2
    go_ret
    exact ⟨rfl, bto hb hb99⟩
  rw [decide_eq_false g60] at C3
  obtain ⟨k, hk, hk1, hkn⟩ : ∃ k : Nat, 1 + d % ((n : Int) - 1) = (k : Int) ∧ 1 ≤ k ∧ k < n := by
    have a1 := Int.emod_nonneg d (show (n : Int) - 1 ≠ 0 by omega)
    have a2 := Int.emod_lt_of_pos d (show (0 : Int) < (n : Int) - 1 by omega)
    exact ⟨(1 + d % ((n : Int) - 1)).toNat, by omega, by omega, by omega⟩
  have HK := Lib.hid hk
  have hw1 : IntKind.i64.wrap ((n : Int) - 1) = (n : Int) - 1 := Go.IntWalk.i64_in _ (by omega)
  have hw2 : IntKind.i64.wrap (1 + d % ((n : Int) - 1)) = 1 + d % ((n : Int) - 1) := Go.IntWalk.i64_in _ (by omega)
  have hnz : ¬ ((n : Int) - 1 = 0) := by omega
  have HL60 := Lib.hid (Nat.le_of_not_lt g60)
  clear hk g60
  go_wp2_with fail
  ((with_reducible refine (C3.out.of hG hb).mono ?_); rintro e w5 ⟨rfl, hb5⟩)
  replace x5 := x5.below hb5
  replace hb := bto hb hb5
  clear hb5 C3 p1
  have p2 : w5.cell? ⟨w.heap.size, 2, none⟩ = some (.string ⟨x.fl.toArray⟩) := x5.c 2
  have p3 := x5.f 2
  go_wp2_with fail
  simp only [HK.out]
  have x6 : Blk _ w.heap.size #[.int .i64 x.day, .string ⟨x.vl.toArray⟩, .string ⟨([] : List UInt8).toArray⟩] := x5.setSame 2 (.string ⟨([] : List UInt8).toArray⟩)
  replace hb : Below w.heap.size w (w5.setCell ⟨w.heap.size, 2, none⟩ (.string ⟨([] : List UInt8).toArray⟩)) := hb.setCell (p := ⟨w.heap.size, 2, none⟩) (Nat.le_refl _) _
  obtain ⟨w6, hw6⟩ : ∃ w6, w6 = w5.setCell ⟨w.heap.size, 2, none⟩ (.string ⟨([] : List UInt8).toArray⟩) := ⟨_, rfl⟩
  rw [← hw6] at x6 hb
  (try rw [← hw6])
  clear hw6 p2 p3 x5 hw1 hw2 hnz
  have CC := Lib.hid (fun (w' : World) (hb : Below w.heap.size w w') => cloneQ A ts n c w' HN.out (by omega) (by omega) (HI.out.below hb))
  refine wp_region_fresh2D (by simp) (by simp) (by kernel_rfl) (by kernel_rfl) (by kernel_rfl) (by kernel_rfl) (by kernel_rfl) ?_
  simp only [List.dropLast_cons_cons, List.dropLast_singleton, List.getLast_cons_cons, List.getLast_singleton]
  refine fresh_val _ (fun _ => rfl) (fun ρ wz hw => by go_simp; first | done | with_reducible rfl) ?_
  simp only [Act.put, List.setIfInBounds_toArray, List.set_cons_zero, List.set_cons_succ, Nat.reduceAdd]
  refine fresh_new _ _ (fun wz u => ∃ g cp cur, u = .slice (some ⟨g, 0, none⟩) n cp ∧ n ≤ cp ∧ cp ≤ 9223372036854775807 ∧ w6.heap.size ≤ g ∧ wz.heap[g]? = some (.cells cur 74 (0, 0)) ∧ cur.size = cp * 3 ∧ cur.toList.take (n * 3) = rowsQ ts) (fun w1 w2 u ⟨g, cp, cur, a1, a2, a3, a4, a5, a6⟩ hb => ⟨g, cp, cur, a1, a2, a3, a4, (hb.block g (Array.getElem?_eq_some_iff.1 a5).1).trans a5, a6⟩) (fun _ => rfl) (fun ρ wz hw => by go_simp; first | done | with_reducible rfl) (fun wz hw => (CC.out wz (bto hb hw)).mono fun e w' ⟨g, cp, he, h1, h2, h3, ho, _, hbb⟩ => by
    rcases ho.2 with ⟨hv, hz⟩ | ⟨g', cap, cur, hv, _, hh, _, _, hsz, htk⟩
    · omega
    · injection hv with a1 _ a3
      injection a1 with a1
      injection a1 with a1
      subst a1 a3
      exact ⟨_, he, hbb, g, cp, cur, rfl, h1, h2, Nat.le_trans hw.size h3, hh, hsz, htk⟩) ?_
  simp only [Act.put, List.setIfInBounds_toArray, List.set_cons_zero, List.set_cons_succ, Nat.reduceAdd]
  refine fresh_val _ (fun _ => rfl) (fun ρ wz hw => by go_simp; first | done | with_reducible rfl) ?_
  simp only [Act.put, List.setIfInBounds_toArray, List.set_cons_zero, List.set_cons_succ, Nat.reduceAdd]
  refine fresh_val _ (fun _ => rfl) (fun ρ wz hw => by have q0 : wz.cell? ⟨w.heap.size, 0, none⟩ = some (.int .i64 x.day) := (x6.below hw).c 0; have q1 : wz.cell? ⟨w.heap.size, 1, none⟩ = some (.string ⟨x.vl.toArray⟩) := (x6.below hw).c 1; have q2 : wz.cell? ⟨w.heap.size, 2, none⟩ = some (.string ⟨([] : List UInt8).toArray⟩) := (x6.below hw).c 2; go_simp; first | done | with_reducible rfl) ?_
  simp only [Act.put, List.setIfInBounds_toArray, List.set_cons_zero, List.set_cons_succ, Nat.reduceAdd]
  refine fresh_box (fun b => .slice (some ⟨b, 0, none⟩) 1 1) (.cells #[.int .i64 x.day, .string ⟨x.vl.toArray⟩, .string ⟨([] : List UInt8).toArray⟩] 74) (fun _ => rfl) (fun ρ wz hw => by go_simp; first | done | with_reducible rfl) w6 (fun wz hw => hw.size) ?_
  simp only [Act.put, List.setIfInBounds_toArray, List.set_cons_zero, List.set_cons_succ, Nat.reduceAdd]
  intro ρ w7 hF
  obtain ⟨⟨g, cp, cur, e5, a2, a3, a4, a5, a6, a7⟩, -⟩ := hF.box 1 _ rfl
  obtain ⟨⟨vb, e6, hv1, hv2⟩, -⟩ := hF.box 4 _ rfl
  have hbF := hF.below
  simp only [e5, e6]
  clear hF e5 e6
  have hvg : vb ≠ g := fun e => by
    rw [e, a5] at hv2
    injection hv2 with hv2
    injection hv2 with hv2
    rw [hv2] at a6
    simp at a6
    omega
  refine wpList_call rfl 56 #[.slice (some ⟨g, 0, none⟩) n cp, .int .i64 (k : Int), .slice (some ⟨vb, 0, none⟩) 1 1] (by go_simp; first | done | with_reducible rfl) ?_
  refine (insertQ g n cp k vb cur ts ⟨x.day, x.vl, []⟩ w7 HN.out hkn a2 a3 (by omega) hvg a5 a6 a7 hv2).mono ?_
  rintro e w8 ⟨C, K, rfl, hK, HP8, hb8⟩
  refine ⟨_, rfl, ?_⟩
  replace hb := bto hb hbF
  have hwg : w.heap.size ≤ g := Nat.le_trans (by have := x6.lt; omega) a4
  replace hb := hb.trans (hb8.mono hwg)
  have hlen : (ts.take k ++ ⟨x.day, x.vl, []⟩ :: ts.drop k).length = n + 1 := by
    rw [List.length_append, List.length_cons, List.length_take, List.length_drop, HN.out]; omega
  have HQ8 : QL w8 (some ⟨C, 0, none⟩) (ts.take k ++ ⟨x.day, x.vl, []⟩ :: ts.drop k) (n + 1) := ⟨hlen, by omega, .inl (by omega), fun t ht => by
    rcases List.mem_append.1 ht with ht | ht
    · exact HStr.out t (List.mem_of_mem_take ht)
    · rcases List.mem_cons.1 ht with rfl | ht
      · exact ⟨HL60.out, Nat.zero_le _⟩
      · exact HStr.out t (List.mem_of_mem_drop ht), HP8⟩
  have HQ0 : QL w A ts n := ⟨HN.out, by omega, .inl (by omega), HStr.out, HI.out⟩
  have hG8 := hG.below hb
  have hr := Below.refl w8.heap.size w8
  have CK := Lib.hid (rwCheckB hG8 HQ8 K)
  have CR := Lib.hid (twReturn hG HQ0 c)
  have CS := Lib.hid (twReturn hG8 HQ8 K)
  clear hbF a2 a3 a4 a5 a6 a7 hv1 hv2 hvg hb8 hwg HP8 x6 HQ8 HQ0 CC
  by_cases g1 : pntE (ts.take k ++ ⟨x.day, x.vl, []⟩ :: ts.drop k) = 0
  rotate_left
  · have e6 : (pntE (ts.take k ++ ⟨x.day, x.vl, []⟩ :: ts.drop k) != 0) = true := bneq' (intbne g1)
    generalize pntE (ts.take k ++ ⟨x.day, x.vl, []⟩ :: ts.drop k) = E at *
    clear g1 CR CS hlen
    go_wp2_with fail
    ((with_reducible refine (CK.out.of hG8 hr).mono ?_); rintro e w9 ⟨rfl, hb9⟩)
    replace hb := bto hb hb9
    clear hb9 CK hr
    go_wp2_with fail
    ((with_reducible refine (CW.out.of hG hb).mono ?_); rintro e w99 ⟨rfl, hb99⟩)
    go_wp2
    go_ret
    exact ⟨rfl, bto hb hb99⟩
  have hrm := ret_mid (x := ⟨x.day, x.vl, []⟩) HG0.out g1 hk1 (by rw [HN.out]; exact hkn) HP.out rfl
  rw [g1] at CK
  rw [hrm] at CS
  have hrf := ret_form HG0.out
  rw [hrf] at CR CS
  generalize prodQ 1 (facs (pts ts)) - 1 = rr at *
  obtain ⟨u, hu⟩ : ∃ u, u = fN rr := ⟨_, rfl⟩
  obtain ⟨v, hv⟩ : ∃ v, v = fD rr := ⟨_, rfl⟩
  rw [← hu, ← hv] at CR CS
  have hE := fun (w : World) => eqF1 (u, v) (u, v) w
  rw [show sameF (u, v) (u, v) = true by simp [sameF]] at hE
  have hEG := guardF
  clear hrm hrf hlen g1 hu hv
  go_wp2_with fail
  ((with_reducible refine (CK.out.of hG8 hr).mono ?_); rintro e w9 ⟨rfl, hb9⟩)
  replace hb := bto hb hb9
  replace hr := bto hr hb9
  clear hb9 CK
  go_wp2_with fail
  ((with_reducible refine (CR.out.of hG hb).mono ?_); rintro e w10 ⟨rfl, hb10⟩)
  have hbA := below_alloc w10 (.cells #[.string ⟨u.toArray⟩, .string ⟨v.toArray⟩] 25)
  have x9 := FBox.new w10 (.string ⟨u.toArray⟩) (.string ⟨v.toArray⟩) 25
  have hbC := bto hb10 hbA
  replace hb := bto hb hbC
  replace hr := bto hr hbC
  clear hb10 hbA hbC CR
  go_wp2_with fail
  ((with_reducible refine (CS.out.of hG8 hr).mono ?_); rintro e w11 ⟨rfl, hb11⟩)
  have hbA := below_alloc w11 (.cells #[.string ⟨u.toArray⟩, .string ⟨v.toArray⟩] 25)
  have x11 := FBox.new w11 (.string ⟨u.toArray⟩) (.string ⟨v.toArray⟩) 25
  have hbC := bto hb11 hbA
  replace x9 := x9.below hbC
  replace hb := bto hb hbC
  clear hb11 hbA hbC CS hr
  have q0 := x9.c0
  have q1 := x9.c1
  have q2 := x11.c0
  have q3 := x11.c1
  go_wp2_with fail
  ((with_reducible refine (CW.out.of hG hb).mono ?_); rintro e w99 ⟨rfl, hb99⟩)
  go_wp2
  go_ret
  exact ⟨rfl, bto hb hb99⟩
end Go.Proofs.YtgnppdkeiihlfaaGreatDoor
