/- Texts put together: If Ma Mb Mc Mp Mz Mr Bq Br Tr Bt. -/
import Derived.Test.YtgnppdkeiihlfaaGreatDoorF2
import Derived.Test.YtgnppdkeiihlfaaGreatDoorFBk
import Derived.Deep.DeepCutAuto
import Derived.Shelf.SlicesE.Clone
import Derived.Laws.StructEq
import Derived.OrdersIn
import Derived.TacticsIn
namespace Go.Proofs.YtgnppdkeiihlfaaGreatDoor
open Go.RowKit Num
def endsB (x : Ins) : Bool := decide (x.kind = 2) || decide (x.kind = 5)
def matB (x : Ins) : Bool := (decide (x.matures ≠ 0) && (!dayB x.matures || decide (x.matures ≤ x.issued))) || (decide (x.matures = 0) && endsB x)
theorem mat_0 {x : Ins} (h : x.matures = 0) : matB x = endsB x := by unfold matB; rw [decide_eq_true h, decide_eq_false (by simpa using h)]; simp
theorem mat_1 {x : Ins} (h : ¬ x.matures = 0) (h1 : dayB x.matures = false) : matB x = true := by unfold matB; rw [decide_eq_true h, h1]; simp
theorem mat_2 {x : Ins} (h : ¬ x.matures = 0) (h1 : x.matures ≤ x.issued) : matB x = true := by unfold matB; rw [decide_eq_true h, decide_eq_true h1]; simp
theorem mat_3 {x : Ins} (h : ¬ x.matures = 0) (h1 : dayB x.matures = true) (h2 : ¬ x.matures ≤ x.issued) : matB x = false := by unfold matB; rw [decide_eq_true h, decide_eq_false h2, decide_eq_false h, h1]; rfl
def ownE (x : Ins) : Int := if x.kind = 2 then bondE x else if x.kind = 5 then fwdE x else plainE x
def numsE (x : Ins) : Int := if numE x.fn x.fd ≠ 0 then numE x.fn x.fd else if numE x.cn x.cd ≠ 0 then numE x.cn x.cd else numE x.sn x.sd
def tailE (x : Ins) : Int := if matB x = true then 13 else if numsE x ≠ 0 then numsE x else ownE x
def chkE (x : Ins) : Int := if ¬ nameB x.id = true then 23 else if x.kind < 1 ∨ 5 < x.kind then 7 else if ¬ codeB x.cur = true then 12 else if x.places < 0 ∨ 12 < x.places then 2 else if ¬ dayB x.issued = true then 13 else tailE x
theorem rule1 (w : World) : (Instr.index 146 rulesV (.int .i64 1)).run Tryz.prog w = .ok (.agg #[.bool false, .func (Fn.func 191) #[] #[]]) w := by kernel_rfl
theorem rule2 (w : World) : (Instr.index 146 rulesV (.int .i64 2)).run Tryz.prog w = .ok (.agg #[.bool true, .func (Fn.func 192) #[] #[]]) w := by kernel_rfl
theorem rule3 (w : World) : (Instr.index 146 rulesV (.int .i64 3)).run Tryz.prog w = .ok (.agg #[.bool false, .func (Fn.func 191) #[] #[]]) w := by kernel_rfl
theorem rule4 (w : World) : (Instr.index 146 rulesV (.int .i64 4)).run Tryz.prog w = .ok (.agg #[.bool false, .func (Fn.func 191) #[] #[]]) w := by kernel_rfl
theorem rule5 (w : World) : (Instr.index 146 rulesV (.int .i64 5)).run Tryz.prog w = .ok (.agg #[.bool true, .func (Fn.func 193) #[] #[]]) w := by kernel_rfl
theorem call_plain (args : Array Value) (w : World) : (callFunc 191 args).run Tryz.prog w = .ok (.enter 191 args) w := by kernel_rfl
theorem call_bond (args : Array Value) (w : World) : (callFunc 192 args).run Tryz.prog w = .ok (.enter 192 args) w := by kernel_rfl
theorem call_forward (args : Array Value) (w : World) : (callFunc 193 args).run Tryz.prog w = .ok (.enter 193 args) w := by kernel_rfl
set_option maxRecDepth 100000 in
theorem own_rule (x : Ins) (hx : x.Small) (h1 : ¬ x.kind < 1) (h2 : ¬ 5 < x.kind) : ∃ (ends : Bool) (f : Nat), (∀ w, (Instr.index 146 rulesV (.int .i64 x.kind)).run Tryz.prog w = .ok (.agg #[.bool ends, .func (Fn.func f) #[] #[]]) w) ∧ ends = endsB x ∧ Ret f #[(Value.agg #[Value.string ⟨List.toArray x.id⟩, Value.int .i64 x.kind, Value.string ⟨List.toArray x.cur⟩, Value.int .i64 x.places, Value.int .i64 x.issued, Value.int .i64 x.matures, Value.string ⟨List.toArray x.fn⟩, Value.string ⟨List.toArray x.fd⟩, Value.string ⟨List.toArray x.cn⟩, Value.string ⟨List.toArray x.cd⟩, Value.int .i64 x.months, Value.int .i64 x.count, Value.string ⟨List.toArray x.other⟩, Value.string ⟨List.toArray x.sn⟩, Value.string ⟨List.toArray x.sd⟩])] (.int .i64 (ownE x)) ∧ ∀ (args : Array Value) w, (callFunc f args).run Tryz.prog w = .ok (.enter f args) w := by
  have hp := iPlain x hx
  have hb := iBond x hx
  have hf := iFwd x hx
  have hk : x.kind = 1 ∨ x.kind = 2 ∨ x.kind = 3 ∨ x.kind = 4 ∨ x.kind = 5 := by omega
  unfold ownE endsB
  rcases hk with h | h | h | h | h
  · exact ⟨false, 191, fun w => by rw [h]; exact rule1 w, by rw [h]; rfl, by rw [if_neg (by omega), if_neg (by omega)]; exact hp, call_plain⟩
  · exact ⟨true, 192, fun w => by rw [h]; exact rule2 w, by rw [h]; rfl, by rw [if_pos h]; exact hb, call_bond⟩
  · exact ⟨false, 191, fun w => by rw [h]; exact rule3 w, by rw [h]; rfl, by rw [if_neg (by omega), if_neg (by omega)]; exact hp, call_plain⟩
  · exact ⟨false, 191, fun w => by rw [h]; exact rule4 w, by rw [h]; rfl, by rw [if_neg (by omega), if_neg (by omega)]; exact hp, call_plain⟩
  · exact ⟨true, 193, fun w => by rw [h]; exact rule5 w, by rw [h]; rfl, by rw [if_neg (by omega), if_pos h]; exact hf, call_forward⟩
theorem nums_0 {x : Ins} (h : ¬ numE x.fn x.fd = 0) : numsE x = numE x.fn x.fd := by unfold numsE; rw [if_pos h]
theorem nums_1 {x : Ins} (h0 : numE x.fn x.fd = 0) (h : ¬ numE x.cn x.cd = 0) : numsE x = numE x.cn x.cd := by unfold numsE; rw [if_neg (fun g => g h0), if_pos h]
theorem nums_2 {x : Ins} (h0 : numE x.fn x.fd = 0) (h : numE x.cn x.cd = 0) : numsE x = numE x.sn x.sd := by unfold numsE; rw [if_neg (fun g => g h0), if_neg (fun g => g h)]
set_option maxHeartbeats 4000000 in
set_option maxRecDepth 100000 in
theorem iCheck (x : Ins) (hx : x.Small) : Ret 64 #[(Value.agg #[Value.string ⟨List.toArray x.id⟩, Value.int .i64 x.kind, Value.string ⟨List.toArray x.cur⟩, Value.int .i64 x.places, Value.int .i64 x.issued, Value.int .i64 x.matures, Value.string ⟨List.toArray x.fn⟩, Value.string ⟨List.toArray x.fd⟩, Value.string ⟨List.toArray x.cn⟩, Value.string ⟨List.toArray x.cd⟩, Value.int .i64 x.months, Value.int .i64 x.count, Value.string ⟨List.toArray x.other⟩, Value.string ⟨List.toArray x.sn⟩, Value.string ⟨List.toArray x.sd⟩])] (.int .i64 (chkE x)) := fun w hG => by
  have C1 := Lib.hid (iName (l := x.id) (Nat.le_trans hx.id (by decide)))
  have C2 := Lib.hid (iCode (l := x.cur) (Nat.le_trans hx.cur (by decide)))
  have C3 := Lib.hid (iValid x.issued)
  have x1 := IBox.new w x 27
  have hb := below_alloc w (.cells #[Value.string ⟨List.toArray x.id⟩, Value.int .i64 x.kind, Value.string ⟨List.toArray x.cur⟩, Value.int .i64 x.places, Value.int .i64 x.issued, Value.int .i64 x.matures, Value.string ⟨List.toArray x.fn⟩, Value.string ⟨List.toArray x.fd⟩, Value.string ⟨List.toArray x.cn⟩, Value.string ⟨List.toArray x.cd⟩, Value.int .i64 x.months, Value.int .i64 x.count, Value.string ⟨List.toArray x.other⟩, Value.string ⟨List.toArray x.sn⟩, Value.string ⟨List.toArray x.sd⟩] 27)
  by_cases h1 : nameB x.id = true
  · have bh1 := h1
    by_cases h2 : x.kind < 1
    · have bh2 : decide (x.kind < 1) = true := decide_eq_true h2
      have HV : Hid (chkE x = 7) := by show _ = _; unfold chkE; rw [if_neg (fun h => h h1), if_pos (.inl h2)]
      clear h1
      go_enter Tryz.func64, Tryz.ntmps64
      obtain ⟨qx1_0, qx1_1, qx1_2, qx1_3, qx1_4, qx1_5, qx1_6, qx1_7, qx1_8, qx1_9, qx1_10, qx1_11, qx1_12, qx1_13, qx1_14⟩ := x1.all
      go_wp2_with fail
      ((with_reducible refine (C1.out.of hG hb).mono ?_); rintro e w2 ⟨rfl, hb2⟩)
      clear qx1_0 qx1_1 qx1_2 qx1_3 qx1_4 qx1_5 qx1_6 qx1_7 qx1_8 qx1_9 qx1_10 qx1_11 qx1_12 qx1_13 qx1_14
      replace x1 := x1.below hb2
      replace hb := bto hb hb2
      clear hb2
      obtain ⟨qx1_0, qx1_1, qx1_2, qx1_3, qx1_4, qx1_5, qx1_6, qx1_7, qx1_8, qx1_9, qx1_10, qx1_11, qx1_12, qx1_13, qx1_14⟩ := x1.all
      go_wp2
      go_ret
      exact ⟨reti HV.out.symm, hb⟩
    · have bh2 : decide (x.kind < 1) = false := decide_eq_false h2
      by_cases h3 : 5 < x.kind
      · have bh3 : decide (5 < x.kind) = true := decide_eq_true h3
        have HV : Hid (chkE x = 7) := by show _ = _; unfold chkE; rw [if_neg (fun h => h h1), if_pos (.inr h3)]
        clear h1
        go_enter Tryz.func64, Tryz.ntmps64
        obtain ⟨qx1_0, qx1_1, qx1_2, qx1_3, qx1_4, qx1_5, qx1_6, qx1_7, qx1_8, qx1_9, qx1_10, qx1_11, qx1_12, qx1_13, qx1_14⟩ := x1.all
        go_wp2_with fail
        ((with_reducible refine (C1.out.of hG hb).mono ?_); rintro e w2 ⟨rfl, hb2⟩)
        clear qx1_0 qx1_1 qx1_2 qx1_3 qx1_4 qx1_5 qx1_6 qx1_7 qx1_8 qx1_9 qx1_10 qx1_11 qx1_12 qx1_13 qx1_14
        replace x1 := x1.below hb2
        replace hb := bto hb hb2
        clear hb2
        obtain ⟨qx1_0, qx1_1, qx1_2, qx1_3, qx1_4, qx1_5, qx1_6, qx1_7, qx1_8, qx1_9, qx1_10, qx1_11, qx1_12, qx1_13, qx1_14⟩ := x1.all
        go_wp2
        go_ret
        exact ⟨reti HV.out.symm, hb⟩
      · have bh3 : decide (5 < x.kind) = false := decide_eq_false h3
        by_cases h4 : codeB x.cur = true
        · have bh4 := h4
          by_cases h5 : x.places < 0
          · have bh5 : decide (x.places < 0) = true := decide_eq_true h5
            have HV : Hid (chkE x = 2) := by show _ = _; unfold chkE; rw [if_neg (fun h => h h1), if_neg (fun h => h.elim h2 h3), if_neg (fun h => h h4), if_pos (.inl h5)]
            clear h1 h4
            go_enter Tryz.func64, Tryz.ntmps64
            obtain ⟨qx1_0, qx1_1, qx1_2, qx1_3, qx1_4, qx1_5, qx1_6, qx1_7, qx1_8, qx1_9, qx1_10, qx1_11, qx1_12, qx1_13, qx1_14⟩ := x1.all
            go_wp2_with fail
            ((with_reducible refine (C1.out.of hG hb).mono ?_); rintro e w2 ⟨rfl, hb2⟩)
            clear qx1_0 qx1_1 qx1_2 qx1_3 qx1_4 qx1_5 qx1_6 qx1_7 qx1_8 qx1_9 qx1_10 qx1_11 qx1_12 qx1_13 qx1_14
            replace x1 := x1.below hb2
            replace hb := bto hb hb2
            clear hb2
            obtain ⟨qx1_0, qx1_1, qx1_2, qx1_3, qx1_4, qx1_5, qx1_6, qx1_7, qx1_8, qx1_9, qx1_10, qx1_11, qx1_12, qx1_13, qx1_14⟩ := x1.all
            go_wp2_with fail
            ((with_reducible refine (C2.out.of hG hb).mono ?_); rintro e w3 ⟨rfl, hb3⟩)
            clear qx1_0 qx1_1 qx1_2 qx1_3 qx1_4 qx1_5 qx1_6 qx1_7 qx1_8 qx1_9 qx1_10 qx1_11 qx1_12 qx1_13 qx1_14
            replace x1 := x1.below hb3
            replace hb := bto hb hb3
            clear hb3
            obtain ⟨qx1_0, qx1_1, qx1_2, qx1_3, qx1_4, qx1_5, qx1_6, qx1_7, qx1_8, qx1_9, qx1_10, qx1_11, qx1_12, qx1_13, qx1_14⟩ := x1.all
            go_wp2
            go_ret
            exact ⟨reti HV.out.symm, hb⟩
          · have bh5 : decide (x.places < 0) = false := decide_eq_false h5
            by_cases h6 : 12 < x.places
            · have bh6 : decide (12 < x.places) = true := decide_eq_true h6
              have HV : Hid (chkE x = 2) := by show _ = _; unfold chkE; rw [if_neg (fun h => h h1), if_neg (fun h => h.elim h2 h3), if_neg (fun h => h h4), if_pos (.inr h6)]
              clear h1 h4
              go_enter Tryz.func64, Tryz.ntmps64
              obtain ⟨qx1_0, qx1_1, qx1_2, qx1_3, qx1_4, qx1_5, qx1_6, qx1_7, qx1_8, qx1_9, qx1_10, qx1_11, qx1_12, qx1_13, qx1_14⟩ := x1.all
              go_wp2_with fail
              ((with_reducible refine (C1.out.of hG hb).mono ?_); rintro e w2 ⟨rfl, hb2⟩)
              clear qx1_0 qx1_1 qx1_2 qx1_3 qx1_4 qx1_5 qx1_6 qx1_7 qx1_8 qx1_9 qx1_10 qx1_11 qx1_12 qx1_13 qx1_14
              replace x1 := x1.below hb2
              replace hb := bto hb hb2
              clear hb2
              obtain ⟨qx1_0, qx1_1, qx1_2, qx1_3, qx1_4, qx1_5, qx1_6, qx1_7, qx1_8, qx1_9, qx1_10, qx1_11, qx1_12, qx1_13, qx1_14⟩ := x1.all
              go_wp2_with fail
              ((with_reducible refine (C2.out.of hG hb).mono ?_); rintro e w3 ⟨rfl, hb3⟩)
              clear qx1_0 qx1_1 qx1_2 qx1_3 qx1_4 qx1_5 qx1_6 qx1_7 qx1_8 qx1_9 qx1_10 qx1_11 qx1_12 qx1_13 qx1_14
              replace x1 := x1.below hb3
              replace hb := bto hb hb3
              clear hb3
              obtain ⟨qx1_0, qx1_1, qx1_2, qx1_3, qx1_4, qx1_5, qx1_6, qx1_7, qx1_8, qx1_9, qx1_10, qx1_11, qx1_12, qx1_13, qx1_14⟩ := x1.all
              go_wp2
              go_ret
              exact ⟨reti HV.out.symm, hb⟩
            · have bh6 : decide (12 < x.places) = false := decide_eq_false h6
              by_cases h7 : dayB x.issued = true
              · have bh7 := h7
                have HV : Hid (chkE x = tailE x) := by show _ = _; unfold chkE; rw [if_neg (fun h => h h1), if_neg (fun h => h.elim h2 h3), if_neg (fun h => h h4), if_neg (fun h => h.elim h5 h6), if_neg (fun h => h h7)]
                obtain ⟨ends, f, hidx, hends, cown, hcall⟩ := own_rule x hx h2 h3
                have HE := Lib.hid hends
                have C4 := Lib.hid (iValid x.matures)
                have CO := Lib.hid cown
                have CR := Lib.hid iRules
                have N0 := Lib.hid (iNumber (l := x.fn) (l' := x.fd) (Nat.le_trans hx.fn (by decide)) (Nat.le_trans hx.fd (by decide)))
                have N1 := Lib.hid (iNumber (l := x.cn) (l' := x.cd) (Nat.le_trans hx.cn (by decide)) (Nat.le_trans hx.cd (by decide)))
                have N2 := Lib.hid (iNumber (l := x.sn) (l' := x.sd) (Nat.le_trans hx.sn (by decide)) (Nat.le_trans hx.sd (by decide)))
                clear h1 h4 h7 hends cown
                go_enter Tryz.func64, Tryz.ntmps64
                obtain ⟨qx1_0, qx1_1, qx1_2, qx1_3, qx1_4, qx1_5, qx1_6, qx1_7, qx1_8, qx1_9, qx1_10, qx1_11, qx1_12, qx1_13, qx1_14⟩ := x1.all
                go_wp2_with fail
                ((with_reducible refine (C1.out.of hG hb).mono ?_); rintro e w2 ⟨rfl, hb2⟩)
                clear qx1_0 qx1_1 qx1_2 qx1_3 qx1_4 qx1_5 qx1_6 qx1_7 qx1_8 qx1_9 qx1_10 qx1_11 qx1_12 qx1_13 qx1_14
                replace x1 := x1.below hb2
                replace hb := bto hb hb2
                clear hb2
                obtain ⟨qx1_0, qx1_1, qx1_2, qx1_3, qx1_4, qx1_5, qx1_6, qx1_7, qx1_8, qx1_9, qx1_10, qx1_11, qx1_12, qx1_13, qx1_14⟩ := x1.all
                go_wp2_with fail
                ((with_reducible refine (C2.out.of hG hb).mono ?_); rintro e w3 ⟨rfl, hb3⟩)
                clear qx1_0 qx1_1 qx1_2 qx1_3 qx1_4 qx1_5 qx1_6 qx1_7 qx1_8 qx1_9 qx1_10 qx1_11 qx1_12 qx1_13 qx1_14
                replace x1 := x1.below hb3
                replace hb := bto hb hb3
                clear hb3
                obtain ⟨qx1_0, qx1_1, qx1_2, qx1_3, qx1_4, qx1_5, qx1_6, qx1_7, qx1_8, qx1_9, qx1_10, qx1_11, qx1_12, qx1_13, qx1_14⟩ := x1.all
                go_wp2_with fail
                ((with_reducible refine (C3.out.of hG hb).mono ?_); rintro e w4 ⟨rfl, hb4⟩)
                clear qx1_0 qx1_1 qx1_2 qx1_3 qx1_4 qx1_5 qx1_6 qx1_7 qx1_8 qx1_9 qx1_10 qx1_11 qx1_12 qx1_13 qx1_14
                replace x1 := x1.below hb4
                replace hb := bto hb hb4
                clear hb4
                go_wp2_with fail
                refine wp_region_kept (by kernel_rfl) (by kernel_rfl) ?_
                refine kept_call _ _ _ (fun _ => rfl) (fun ρ w hw => by go_simp; first | done | with_reducible rfl) (fun w hw => CR.out.of hG (bto hb hw)) ?_
                simp only [Act.put, List.setIfInBounds_toArray, List.set_cons_zero, List.set_cons_succ, Nat.reduceAdd]
                refine kept_val _ (fun _ => rfl) (fun ρ w hw => by go_simp; first | done | with_reducible rfl) ?_
                simp only [Act.put, List.setIfInBounds_toArray, List.set_cons_zero, List.set_cons_succ, Nat.reduceAdd]
                refine kept_val _ (fun _ => rfl) (fun ρ w hw => by have q1 := (x1.below hw).c1; go_simp; first | done | with_reducible rfl) ?_
                simp only [Act.put, List.setIfInBounds_toArray, List.set_cons_zero, List.set_cons_succ, Nat.reduceAdd]
                refine kept_val _ (fun _ => rfl) (fun ρ w hw => by go_simp; first | done | with_reducible rfl) ?_
                simp only [Act.put, List.setIfInBounds_toArray, List.set_cons_zero, List.set_cons_succ, Nat.reduceAdd]
                refine kept_box (fun b => .pointer (some ⟨b, 0, none⟩)) _ rfl (fun _ => rfl) (fun ρ w hw => by go_simp; first | done | with_reducible rfl) ?_
                simp only [Act.put, List.setIfInBounds_toArray, List.set_cons_zero, List.set_cons_succ, Nat.reduceAdd]
                refine kept_put2 4 _ 3 _ _ _ _ _ rfl rfl rfl (by decide) (fun _ => rfl) (fun ρ w hw q0 q1 q2 q3 => by go_simp; first | done | with_reducible rfl) ?_
                simp only [Act.put, Nat.reduceAdd]
                refine kept_end (fun ρ w5 hF => ?_)
                replace x1 := x1.below hF.below
                replace hb := bto hb hF.below
                have x3 := FBox.ofB (hF.box 4 _ _ rfl).2
                generalize ρ 4 = b3 at *
                clear hF
                clear hidx CR
                go_upto_region 12 with fail
                go_cut [68] from 44 to 68 (fun s68 wx => s68 = .bool (matB x) ∧ Below w5.heap.size w5 wx)
                case first =>
                  by_cases m0 : x.matures = 0
                  · have e1 : (x.matures == 0) = true := by rw [beq_iff_eq]; exact m0
                    have e2 := bneq e1
                    have HM : Hid (matB x = ends) := by show _ = _; rw [mat_0 m0, HE.out]
                    clear m0
                    obtain ⟨qx1_0, qx1_1, qx1_2, qx1_3, qx1_4, qx1_5, qx1_6, qx1_7, qx1_8, qx1_9, qx1_10, qx1_11, qx1_12, qx1_13, qx1_14⟩ := x1.all
                    have qx3_0 := x3.c0
                    have qx3_1 := x3.c1
                    go_wp2
                    go_meet
                    case rel => exact ⟨by rw [HM.out], Below.refl _ _⟩
                  · have e1 : (x.matures == 0) = false := by rw [beq_eq_false_iff_ne]; exact m0
                    have e2 := bneq' e1
                    have hG2 := hG.below hb
                    have hb2 := Below.refl w5.heap.size w5
                    by_cases m1 : dayB x.matures = true
                    · by_cases m2 : x.matures ≤ x.issued
                      · have e3 : decide (x.matures ≤ x.issued) = true := decide_eq_true m2
                        have HM : Hid (matB x = true) := mat_2 m0 m2
                        clear m0
                        obtain ⟨qx1_0, qx1_1, qx1_2, qx1_3, qx1_4, qx1_5, qx1_6, qx1_7, qx1_8, qx1_9, qx1_10, qx1_11, qx1_12, qx1_13, qx1_14⟩ := x1.all
                        have qx3_0 := x3.c0
                        have qx3_1 := x3.c1
                        go_wp2_with fail
                        ((with_reducible refine (C4.out.of hG2 hb2).mono ?_); rintro e wv ⟨rfl, hbv⟩)
                        clear qx1_0 qx1_1 qx1_2 qx1_3 qx1_4 qx1_5 qx1_6 qx1_7 qx1_8 qx1_9 qx1_10 qx1_11 qx1_12 qx1_13 qx1_14 qx3_0 qx3_1
                        replace x1 := x1.below hbv
                        replace x3 := x3.below hbv
                        obtain ⟨qx1_0, qx1_1, qx1_2, qx1_3, qx1_4, qx1_5, qx1_6, qx1_7, qx1_8, qx1_9, qx1_10, qx1_11, qx1_12, qx1_13, qx1_14⟩ := x1.all
                        have qx3_0 := x3.c0
                        have qx3_1 := x3.c1
                        go_wp2
                        go_meet
                        case rel => exact ⟨by rw [HM.out], hbv⟩
                      · have e3 : decide (x.matures ≤ x.issued) = false := decide_eq_false m2
                        have HM : Hid (matB x = false) := mat_3 m0 m1 m2
                        clear m0
                        obtain ⟨qx1_0, qx1_1, qx1_2, qx1_3, qx1_4, qx1_5, qx1_6, qx1_7, qx1_8, qx1_9, qx1_10, qx1_11, qx1_12, qx1_13, qx1_14⟩ := x1.all
                        have qx3_0 := x3.c0
                        have qx3_1 := x3.c1
                        go_wp2_with fail
                        ((with_reducible refine (C4.out.of hG2 hb2).mono ?_); rintro e wv ⟨rfl, hbv⟩)
                        clear qx1_0 qx1_1 qx1_2 qx1_3 qx1_4 qx1_5 qx1_6 qx1_7 qx1_8 qx1_9 qx1_10 qx1_11 qx1_12 qx1_13 qx1_14 qx3_0 qx3_1
                        replace x1 := x1.below hbv
                        replace x3 := x3.below hbv
                        obtain ⟨qx1_0, qx1_1, qx1_2, qx1_3, qx1_4, qx1_5, qx1_6, qx1_7, qx1_8, qx1_9, qx1_10, qx1_11, qx1_12, qx1_13, qx1_14⟩ := x1.all
                        have qx3_0 := x3.c0
                        have qx3_1 := x3.c1
                        go_wp2
                        go_meet
                        case rel => exact ⟨by rw [HM.out], hbv⟩
                    · have m1 := not_true_b m1
                      have HM : Hid (matB x = true) := mat_1 m0 m1
                      clear m0
                      obtain ⟨qx1_0, qx1_1, qx1_2, qx1_3, qx1_4, qx1_5, qx1_6, qx1_7, qx1_8, qx1_9, qx1_10, qx1_11, qx1_12, qx1_13, qx1_14⟩ := x1.all
                      have qx3_0 := x3.c0
                      have qx3_1 := x3.c1
                      go_wp2_with fail
                      ((with_reducible refine (C4.out.of hG2 hb2).mono ?_); rintro e wv ⟨rfl, hbv⟩)
                      clear qx1_0 qx1_1 qx1_2 qx1_3 qx1_4 qx1_5 qx1_6 qx1_7 qx1_8 qx1_9 qx1_10 qx1_11 qx1_12 qx1_13 qx1_14 qx3_0 qx3_1
                      replace x1 := x1.below hbv
                      replace x3 := x3.below hbv
                      obtain ⟨qx1_0, qx1_1, qx1_2, qx1_3, qx1_4, qx1_5, qx1_6, qx1_7, qx1_8, qx1_9, qx1_10, qx1_11, qx1_12, qx1_13, qx1_14⟩ := x1.all
                      have qx3_0 := x3.c0
                      have qx3_1 := x3.c1
                      go_wp2
                      go_meet
                      case rel => exact ⟨by rw [HM.out], hbv⟩
                case rest =>
                  obtain ⟨rfl, hbc⟩ := hcut
                  replace x1 := x1.below hbc
                  replace x3 := x3.below hbc
                  replace hb := bto hb hbc
                  clear hbc C4 HE
                  obtain ⟨mb, hmb⟩ : ∃ b, matB x = b := ⟨_, rfl⟩
                  rw [hmb]
                  have HB := Lib.hid hmb
                  clear hmb
                  rcases Bool.eq_false_or_eq_true mb with hm | hm <;> subst hm
                  · have HT : Hid (tailE x = 13) := by show _ = _; unfold tailE; rw [if_pos HB.out]
                    clear HB N0 N1 N2 CO
                    go_wp2
                    go_ret
                    exact ⟨reti (HV.out.trans HT.out).symm, hb⟩
                  · have HT : Hid (tailE x = if numsE x ≠ 0 then numsE x else ownE x) := by show _ = _; unfold tailE; rw [if_neg (by rw [HB.out]; decide)]
                    clear HB
                    obtain ⟨qx1_0, qx1_1, qx1_2, qx1_3, qx1_4, qx1_5, qx1_6, qx1_7, qx1_8, qx1_9, qx1_10, qx1_11, qx1_12, qx1_13, qx1_14⟩ := x1.all
                    go_wp2_with fail
                    clear qx1_0 qx1_1 qx1_2 qx1_3 qx1_4 qx1_5 qx1_6 qx1_7 qx1_8 qx1_9 qx1_10 qx1_11 qx1_12 qx1_13 qx1_14
                    have hbA := below_alloc wc (.cells #[.string ⟨x.fn.toArray⟩, .string ⟨x.fd.toArray⟩, .string ⟨x.cn.toArray⟩, .string ⟨x.cd.toArray⟩, .string ⟨x.sn.toArray⟩, .string ⟨x.sd.toArray⟩] 25)
                    have xN := Blk.new wc #[.string ⟨x.fn.toArray⟩, .string ⟨x.fd.toArray⟩, .string ⟨x.cn.toArray⟩, .string ⟨x.cd.toArray⟩, .string ⟨x.sn.toArray⟩, .string ⟨x.sd.toArray⟩] 25
                    replace x1 := x1.below hbA
                    replace x3 := x3.below hbA
                    replace hb := bto hb hbA
                    clear hbA
                    go_loopw [77] (fun iv wr => ∃ k : Nat, k ≤ 3 ∧ iv = .int .i64 (k : Int) ∧ Hid ((1 ≤ k → numE x.fn x.fd = 0) ∧ (2 ≤ k → numE x.cn x.cd = 0) ∧ (3 ≤ k → numE x.sn x.sd = 0)) ∧ IBox wr w.heap.size x ∧ FBox wr b3 (.bool ends) (.func (Fn.func f) #[] #[]) ∧ Blk wr wc.heap.size #[.string ⟨x.fn.toArray⟩, .string ⟨x.fd.toArray⟩, .string ⟨x.cn.toArray⟩, .string ⟨x.cd.toArray⟩, .string ⟨x.sn.toArray⟩, .string ⟨x.sd.toArray⟩] ∧ Below w.heap.size w wr) (fun iv _ => 3 - (intOf iv).toNat)
                    case atStart => exact ⟨0, by omega, rfl, ⟨fun h => absurd h (by decide), fun h => absurd h (by decide), fun h => absurd h (by decide)⟩, x1, x3, xN, hb⟩
                    case round =>
                      obtain ⟨k, hk, rfl, HK, y1, y3, yN, hbr⟩ := hrel
                      have hk4 : k = 0 ∨ k = 1 ∨ k = 2 ∨ k = 3 := by omega
                      rcases hk4 with rfl | rfl | rfl | rfl
                      · have q0 : wr.cell? ⟨wc.heap.size, 0, none⟩ = some (.string ⟨x.fn.toArray⟩) := yN.c 0
                        have q1 : wr.cell? ⟨wc.heap.size, 1, none⟩ = some (.string ⟨x.fd.toArray⟩) := yN.c 1
                        have hbA := below_alloc wr (.cells #[.string ⟨x.fn.toArray⟩, .string ⟨x.fd.toArray⟩] 25)
                        go_wp2_with fail
                        ((with_reducible refine (N0.out.of hG (bto hbr hbA)).mono ?_); rintro e wn ⟨rfl, hbn⟩)
                        have hbn := bto hbA hbn
                        replace y1 := y1.below hbn
                        replace y3 := y3.below hbn
                        replace yN := yN.below hbn
                        replace hbr := bto hbr hbn
                        clear hbn hbA q0 q1
                        by_cases hz : numE x.fn x.fd = 0
                        · have HK2 : Hid ((1 ≤ 1 → numE x.fn x.fd = 0) ∧ (2 ≤ 1 → numE x.cn x.cd = 0) ∧ (3 ≤ 1 → numE x.sn x.sd = 0)) := ⟨fun _ => hz, fun h => absurd h (by decide), fun h => absurd h (by decide)⟩
                          have e1 : (numE x.fn x.fd == 0) = true := by rw [beq_iff_eq]; exact hz
                          have e2 := bneq e1
                          clear hz HK
                          go_wp2
                          go_roundw
                          case rel => exact ⟨1, by omega, by first | rfl | go_num, HK2, y1, y3, yN, hbr⟩
                          case measure => simp [intOf]
                        · have HQ : Hid (tailE x = numE x.fn x.fd) := by show _ = _; have hq := nums_0 hz; rw [HT.out, hq, if_pos hz]
                          have e1 : (numE x.fn x.fd == 0) = false := by rw [beq_eq_false_iff_ne]; exact hz
                          have e2 := bneq' e1
                          clear hz HK
                          go_wp2
                          go_ret
                          exact ⟨reti (HV.out.trans HQ.out).symm, hbr⟩
                      · have q0 : wr.cell? ⟨wc.heap.size, 2, none⟩ = some (.string ⟨x.cn.toArray⟩) := yN.c 2
                        have q1 : wr.cell? ⟨wc.heap.size, 3, none⟩ = some (.string ⟨x.cd.toArray⟩) := yN.c 3
                        have hbA := below_alloc wr (.cells #[.string ⟨x.cn.toArray⟩, .string ⟨x.cd.toArray⟩] 25)
                        go_wp2_with fail
                        ((with_reducible refine (N1.out.of hG (bto hbr hbA)).mono ?_); rintro e wn ⟨rfl, hbn⟩)
                        have hbn := bto hbA hbn
                        replace y1 := y1.below hbn
                        replace y3 := y3.below hbn
                        replace yN := yN.below hbn
                        replace hbr := bto hbr hbn
                        clear hbn hbA q0 q1
                        by_cases hz : numE x.cn x.cd = 0
                        · have HK2 : Hid ((1 ≤ 2 → numE x.fn x.fd = 0) ∧ (2 ≤ 2 → numE x.cn x.cd = 0) ∧ (3 ≤ 2 → numE x.sn x.sd = 0)) := ⟨fun _ => HK.out.1 (by decide), fun _ => hz, fun h => absurd h (by decide)⟩
                          have e1 : (numE x.cn x.cd == 0) = true := by rw [beq_iff_eq]; exact hz
                          have e2 := bneq e1
                          clear hz HK
                          go_wp2
                          go_roundw
                          case rel => exact ⟨2, by omega, by first | rfl | go_num, HK2, y1, y3, yN, hbr⟩
                          case measure => simp [intOf]
                        · have HQ : Hid (tailE x = numE x.cn x.cd) := by show _ = _; have hq := nums_1 (HK.out.1 (by decide)) hz; rw [HT.out, hq, if_pos hz]
                          have e1 : (numE x.cn x.cd == 0) = false := by rw [beq_eq_false_iff_ne]; exact hz
                          have e2 := bneq' e1
                          clear hz HK
                          go_wp2
                          go_ret
                          exact ⟨reti (HV.out.trans HQ.out).symm, hbr⟩
                      · have q0 : wr.cell? ⟨wc.heap.size, 4, none⟩ = some (.string ⟨x.sn.toArray⟩) := yN.c 4
                        have q1 : wr.cell? ⟨wc.heap.size, 5, none⟩ = some (.string ⟨x.sd.toArray⟩) := yN.c 5
                        have hbA := below_alloc wr (.cells #[.string ⟨x.sn.toArray⟩, .string ⟨x.sd.toArray⟩] 25)
                        go_wp2_with fail
                        ((with_reducible refine (N2.out.of hG (bto hbr hbA)).mono ?_); rintro e wn ⟨rfl, hbn⟩)
                        have hbn := bto hbA hbn
                        replace y1 := y1.below hbn
                        replace y3 := y3.below hbn
                        replace yN := yN.below hbn
                        replace hbr := bto hbr hbn
                        clear hbn hbA q0 q1
                        by_cases hz : numE x.sn x.sd = 0
                        · have HK2 : Hid ((1 ≤ 3 → numE x.fn x.fd = 0) ∧ (2 ≤ 3 → numE x.cn x.cd = 0) ∧ (3 ≤ 3 → numE x.sn x.sd = 0)) := ⟨fun _ => HK.out.1 (by decide), fun _ => HK.out.2.1 (by decide), fun _ => hz⟩
                          have e1 : (numE x.sn x.sd == 0) = true := by rw [beq_iff_eq]; exact hz
                          have e2 := bneq e1
                          clear hz HK
                          go_wp2
                          go_roundw
                          case rel => exact ⟨3, by omega, by first | rfl | go_num, HK2, y1, y3, yN, hbr⟩
                          case measure => simp [intOf]
                        · have HQ : Hid (tailE x = numE x.sn x.sd) := by show _ = _; have hq := nums_2 (HK.out.1 (by decide)) (HK.out.2.1 (by decide)); rw [HT.out, hq, if_pos hz]
                          have e1 : (numE x.sn x.sd == 0) = false := by rw [beq_eq_false_iff_ne]; exact hz
                          have e2 := bneq' e1
                          clear hz HK
                          go_wp2
                          go_ret
                          exact ⟨reti (HV.out.trans HQ.out).symm, hbr⟩
                      · have HQ : Hid (tailE x = ownE x) := by show _ = _; have hq := nums_2 (HK.out.1 (by decide)) (HK.out.2.1 (by decide)); rw [HT.out, hq, if_neg (fun g => g (HK.out.2.2 (by decide)))]
                        clear HK HT N0 N1 N2
                        have p0 := y1.c0
                        have p1 := y1.c1
                        have p2 := y1.c2
                        have p3 := y1.c3
                        have p4 := y1.c4
                        have p5 := y1.c5
                        have p6 := y1.c6
                        have p7 := y1.c7
                        have p8 := y1.c8
                        have p9 := y1.c9
                        have p10 := y1.c10
                        have p11 := y1.c11
                        have p12 := y1.c12
                        have p13 := y1.c13
                        have p14 := y1.c14
                        have p20 := y3.c0
                        have p21 := y3.c1
                        go_wp2_with fail
                        ((with_reducible refine (CO.out.of hG hbr).mono ?_); rintro e wn ⟨rfl, hbn⟩)
                        replace hbr := bto hbr hbn
                        go_wp2
                        go_ret
                        exact ⟨reti (HV.out.trans HQ.out).symm, hbr⟩
              · have bh7 : dayB x.issued = false := not_true_b h7
                have HV : Hid (chkE x = 13) := by show _ = _; unfold chkE; rw [if_neg (fun h => h h1), if_neg (fun h => h.elim h2 h3), if_neg (fun h => h h4), if_neg (fun h => h.elim h5 h6), if_pos h7]
                clear h1 h4 h7
                go_enter Tryz.func64, Tryz.ntmps64
                obtain ⟨qx1_0, qx1_1, qx1_2, qx1_3, qx1_4, qx1_5, qx1_6, qx1_7, qx1_8, qx1_9, qx1_10, qx1_11, qx1_12, qx1_13, qx1_14⟩ := x1.all
                go_wp2_with fail
                ((with_reducible refine (C1.out.of hG hb).mono ?_); rintro e w2 ⟨rfl, hb2⟩)
                clear qx1_0 qx1_1 qx1_2 qx1_3 qx1_4 qx1_5 qx1_6 qx1_7 qx1_8 qx1_9 qx1_10 qx1_11 qx1_12 qx1_13 qx1_14
                replace x1 := x1.below hb2
                replace hb := bto hb hb2
                clear hb2
                obtain ⟨qx1_0, qx1_1, qx1_2, qx1_3, qx1_4, qx1_5, qx1_6, qx1_7, qx1_8, qx1_9, qx1_10, qx1_11, qx1_12, qx1_13, qx1_14⟩ := x1.all
                go_wp2_with fail
                ((with_reducible refine (C2.out.of hG hb).mono ?_); rintro e w3 ⟨rfl, hb3⟩)
                clear qx1_0 qx1_1 qx1_2 qx1_3 qx1_4 qx1_5 qx1_6 qx1_7 qx1_8 qx1_9 qx1_10 qx1_11 qx1_12 qx1_13 qx1_14
                replace x1 := x1.below hb3
                replace hb := bto hb hb3
                clear hb3
                obtain ⟨qx1_0, qx1_1, qx1_2, qx1_3, qx1_4, qx1_5, qx1_6, qx1_7, qx1_8, qx1_9, qx1_10, qx1_11, qx1_12, qx1_13, qx1_14⟩ := x1.all
                go_wp2_with fail
                ((with_reducible refine (C3.out.of hG hb).mono ?_); rintro e w4 ⟨rfl, hb4⟩)
                clear qx1_0 qx1_1 qx1_2 qx1_3 qx1_4 qx1_5 qx1_6 qx1_7 qx1_8 qx1_9 qx1_10 qx1_11 qx1_12 qx1_13 qx1_14
                replace x1 := x1.below hb4
                replace hb := bto hb hb4
                clear hb4
                obtain ⟨qx1_0, qx1_1, qx1_2, qx1_3, qx1_4, qx1_5, qx1_6, qx1_7, qx1_8, qx1_9, qx1_10, qx1_11, qx1_12, qx1_13, qx1_14⟩ := x1.all
                go_wp2
                go_ret
                exact ⟨reti HV.out.symm, hb⟩
        · have bh4 : codeB x.cur = false := not_true_b h4
          have HV : Hid (chkE x = 12) := by show _ = _; unfold chkE; rw [if_neg (fun h => h h1), if_neg (fun h => h.elim h2 h3), if_pos h4]
          clear h1 h4
          go_enter Tryz.func64, Tryz.ntmps64
          obtain ⟨qx1_0, qx1_1, qx1_2, qx1_3, qx1_4, qx1_5, qx1_6, qx1_7, qx1_8, qx1_9, qx1_10, qx1_11, qx1_12, qx1_13, qx1_14⟩ := x1.all
          go_wp2_with fail
          ((with_reducible refine (C1.out.of hG hb).mono ?_); rintro e w2 ⟨rfl, hb2⟩)
          clear qx1_0 qx1_1 qx1_2 qx1_3 qx1_4 qx1_5 qx1_6 qx1_7 qx1_8 qx1_9 qx1_10 qx1_11 qx1_12 qx1_13 qx1_14
          replace x1 := x1.below hb2
          replace hb := bto hb hb2
          clear hb2
          obtain ⟨qx1_0, qx1_1, qx1_2, qx1_3, qx1_4, qx1_5, qx1_6, qx1_7, qx1_8, qx1_9, qx1_10, qx1_11, qx1_12, qx1_13, qx1_14⟩ := x1.all
          go_wp2_with fail
          ((with_reducible refine (C2.out.of hG hb).mono ?_); rintro e w3 ⟨rfl, hb3⟩)
          clear qx1_0 qx1_1 qx1_2 qx1_3 qx1_4 qx1_5 qx1_6 qx1_7 qx1_8 qx1_9 qx1_10 qx1_11 qx1_12 qx1_13 qx1_14
          replace x1 := x1.below hb3
          replace hb := bto hb hb3
          clear hb3
          obtain ⟨qx1_0, qx1_1, qx1_2, qx1_3, qx1_4, qx1_5, qx1_6, qx1_7, qx1_8, qx1_9, qx1_10, qx1_11, qx1_12, qx1_13, qx1_14⟩ := x1.all
          go_wp2
          go_ret
          exact ⟨reti HV.out.symm, hb⟩
  · have bh1 : nameB x.id = false := not_true_b h1
    have HV : Hid (chkE x = 23) := by show _ = _; unfold chkE; rw [if_pos h1]
    clear h1
    go_enter Tryz.func64, Tryz.ntmps64
    obtain ⟨qx1_0, qx1_1, qx1_2, qx1_3, qx1_4, qx1_5, qx1_6, qx1_7, qx1_8, qx1_9, qx1_10, qx1_11, qx1_12, qx1_13, qx1_14⟩ := x1.all
    go_wp2_with fail
    ((with_reducible refine (C1.out.of hG hb).mono ?_); rintro e w2 ⟨rfl, hb2⟩)
    clear qx1_0 qx1_1 qx1_2 qx1_3 qx1_4 qx1_5 qx1_6 qx1_7 qx1_8 qx1_9 qx1_10 qx1_11 qx1_12 qx1_13 qx1_14
    replace x1 := x1.below hb2
    replace hb := bto hb hb2
    clear hb2
    obtain ⟨qx1_0, qx1_1, qx1_2, qx1_3, qx1_4, qx1_5, qx1_6, qx1_7, qx1_8, qx1_9, qx1_10, qx1_11, qx1_12, qx1_13, qx1_14⟩ := x1.all
    go_wp2
    go_ret
    exact ⟨reti HV.out.symm, hb⟩
end Go.Proofs.YtgnppdkeiihlfaaGreatDoor
namespace Go.Proofs.YtgnppdkeiihlfaaGreatDoor
open Go.RowKit Num
set_option maxHeartbeats 1000000 in
theorem mCode {l : List UInt8} (hl : l.length ≤ 9223372036854775807) : Ret 109 #[.string ⟨l.toArray⟩] (.bool (codeB l)) := fun w hG => by
  have hb := Below.refl w.heap.size w
  have HN : Hid (l.all codeC = false → codeB l = false) := by intro h; unfold codeB; rw [h, Bool.and_false]
  have HY : Hid (l.all codeC = true → ((l.length : Int) == 3) = codeB l) := by intro h; unfold codeB; rw [h, Bool.and_true]; by_cases h3 : l.length = 3 <;> simp [h3] <;> omega
  go_enter Tryz.func109, Tryz.ntmps109
  go_wp2_with fail
  go_loop [6] (fun iv => ∃ k : Nat, k ≤ l.length ∧ iv = .int .i64 (k : Int) ∧ Hid ((l.take k).all codeC = true)) (fun iv => l.length - (intOf iv).toNat)
  case atStart => exact ⟨0, Nat.zero_le _, rfl, rfl⟩
  case round =>
    obtain ⟨k, hk, rfl, HK⟩ := hrel
    by_cases hlt : k < l.length
    · have hlt' : k < (⟨l.toArray⟩ : ByteArray).size := by show k < l.toArray.size; simpa using hlt
      obtain ⟨x, hx⟩ : ∃ x, x = (⟨l.toArray⟩ : ByteArray)[k] := ⟨_, rfl⟩
      have hxl : l[k]? = some x := by rw [hx]; simp [hlt]; rfl
      have HX := Lib.hid hxl
      clear hxl
      have hx2 : ∀ hp, (⟨l.toArray⟩ : ByteArray)[k]'hp = x := fun _ => hx.symm
      clear hx
      by_cases d1 : (x.toNat : Int) < 65
      · have ed1 : decide ((x.toNat : Int) < 65) = true := decide_eq_true d1
        go_wp2
        go_ret
        exact ⟨retb (HN.out (all_no' HX.out (not_true_b (fun h => by have := (codeC_iff _).1 h; omega)))).symm, hb⟩
      · have ed1 : decide ((x.toNat : Int) < 65) = false := decide_eq_false d1
        by_cases d2 : 90 < (x.toNat : Int)
        · have ed2 : decide (90 < (x.toNat : Int)) = true := decide_eq_true d2
          go_wp2
          go_ret
          exact ⟨retb (HN.out (all_no' HX.out (not_true_b (fun h => by have := (codeC_iff _).1 h; omega)))).symm, hb⟩
        · have ed2 : decide (90 < (x.toNat : Int)) = false := decide_eq_false d2
          go_wp2
          go_round
          case rel => exact ⟨k + 1, by omega, by go_num, all_snoc' HK.out HX.out ((codeC_iff _).2 (by omega))⟩
          case measure => simp [intOf]; omega
    · have HK' : Hid (l.all codeC = true) := by have := HK.out; rw [List.take_of_length_le (by omega)] at this; exact this
      clear HK
      go_wp2
      go_ret
      exact ⟨retb (HY.out HK'.out), hb⟩
end Go.Proofs.YtgnppdkeiihlfaaGreatDoor
namespace Go.Proofs.YtgnppdkeiihlfaaGreatDoor
open Num Go.Op
structure Mon where
  cur : List UInt8
  amt : List UInt8
theorem mon_eq {x y : Mon} (h1 : x.cur = y.cur) (h2 : x.amt = y.amt) : x = y := by
  cases x; cases y; simp at h1 h2; rw [h1, h2]
theorem ltS_irr : ∀ a : List UInt8, bytesLess a a = false
  | [] => rfl
  | a :: x => by
    have h := ltS_irr x
    simp [bytesLess, h]
theorem ltS_nil (b : List UInt8) : bytesLess b [] = false := by cases b <;> rfl
theorem ltS_cons {a b : UInt8} {x y : List UInt8} : bytesLess (a :: x) (b :: y) = true ↔ a < b ∨ (a = b ∧ bytesLess x y = true) := by simp [bytesLess]
theorem ltS_trans : ∀ {a b c : List UInt8}, bytesLess a b = true → bytesLess b c = true → bytesLess a c = true
  | _, _, [], _, h2 => by rw [ltS_nil] at h2; cases h2
  | _, [], _ :: _, h1, _ => by rw [ltS_nil] at h1; cases h1
  | [], _ :: _, _ :: _, _, _ => rfl
  | a :: x, b :: y, c :: z, h1, h2 => by
    rw [ltS_cons] at *
    rcases h1 with h1 | ⟨rfl, h1⟩
    · rcases h2 with h2 | ⟨rfl, h2⟩
      · exact .inl (UInt8.lt_trans h1 h2)
      · exact .inl h1
    · rcases h2 with h2 | ⟨rfl, h2⟩
      · exact .inl h2
      · exact .inr ⟨rfl, ltS_trans h1 h2⟩
theorem ltS_tri : ∀ a b : List UInt8, bytesLess a b = true ∨ a = b ∨ bytesLess b a = true
  | [], [] => .inr (.inl rfl)
  | [], _ :: _ => .inl rfl
  | _ :: _, [] => .inr (.inr rfl)
  | a :: x, b :: y => by
    rw [ltS_cons, ltS_cons]
    rcases Nat.lt_trichotomy a.toNat b.toNat with h | h | h
    · exact .inl (.inl (UInt8.lt_iff_toNat_lt.2 h))
    · obtain rfl := UInt8.toNat_inj.1 h
      rcases ltS_tri x y with h | h | h
      · exact .inl (.inr ⟨rfl, h⟩)
      · exact .inr (.inl (by rw [h]))
      · exact .inr (.inr (.inr ⟨rfl, h⟩))
    · exact .inr (.inr (.inl (UInt8.lt_iff_toNat_lt.2 h)))
theorem ltS_ne {a b : List UInt8} (h : bytesLess a b = true) : a ≠ b := fun e => by rw [e, ltS_irr] at h; cases h
theorem ltS_asym {a b : List UInt8} (h : bytesLess a b = true) : bytesLess b a = false := by
  cases h2 : bytesLess b a with
  | false => rfl
  | true => have := ltS_trans h h2; rw [ltS_irr] at this; cases this
def Srt (xs : List Mon) : Prop := xs.Pairwise (fun x y => bytesLess x.cur y.cur = true)
def Can (xs : List Mon) : Prop := ∀ x ∈ xs, x.amt = canon (val x.amt) ∧ x.amt ≠ []
def zAt : List Mon → List UInt8 → Int
  | [], _ => 0
  | x :: r, c => if x.cur = c then val x.amt else zAt r c
theorem zAt_no : ∀ {xs : List Mon} {c : List UInt8}, (∀ x ∈ xs, x.cur ≠ c) → zAt xs c = 0
  | [], _, _ => rfl
  | x :: r, c, h => by
    show (if x.cur = c then val x.amt else zAt r c) = 0
    rw [if_neg (h x (List.mem_cons_self ..))]
    exact zAt_no fun y hy => h y (List.mem_cons_of_mem _ hy)
theorem srt_tail {x : Mon} {r : List Mon} (h : Srt (x :: r)) : Srt r := (List.pairwise_cons.1 h).2
theorem srt_head {x : Mon} {r : List Mon} (h : Srt (x :: r)) : ∀ y ∈ r, bytesLess x.cur y.cur = true := (List.pairwise_cons.1 h).1
theorem can_tail {x : Mon} {r : List Mon} (h : Can (x :: r)) : Can r := fun y hy => h y (List.mem_cons_of_mem _ hy)
theorem zAt_low {x : Mon} {r : List Mon} {c : List UInt8} (h : Srt (x :: r)) (hc : bytesLess c x.cur = true) : zAt (x :: r) c = 0 := by
  refine zAt_no fun y hy => ?_
  rcases List.mem_cons.1 hy with rfl | hy
  · exact (ltS_ne hc).symm
  · exact (ltS_ne (ltS_trans hc (srt_head h y hy))).symm
theorem zAt_tail {x : Mon} {r : List Mon} (h : Srt (x :: r)) : zAt r x.cur = 0 := zAt_no fun y hy => (ltS_ne (srt_head h y hy)).symm
theorem val_ne {l : List UInt8} (hc : l = canon (val l)) (h : l ≠ []) : val l ≠ 0 := fun e => h (by rw [hc, e]; rfl)
theorem bag_ext : ∀ {xs ys : List Mon}, Srt xs → Srt ys → Can xs → Can ys → (∀ c, zAt xs c = zAt ys c) → xs = ys
  | [], [], _, _, _, _, _ => rfl
  | [], y :: s, _, _, _, h, he => by
    have h1 := he y.cur
    have h2 := h y (List.mem_cons_self ..)
    simp only [zAt, if_pos] at h1
    exact absurd h1.symm (val_ne h2.1 h2.2)
  | x :: r, [], _, _, h, _, he => by
    have h1 := he x.cur
    have h2 := h x (List.mem_cons_self ..)
    simp only [zAt, if_pos] at h1
    exact absurd h1 (val_ne h2.1 h2.2)
  | x :: r, y :: s, hx, hy, cx, cy, he => by
    have h1 := cx x (List.mem_cons_self ..)
    have h2 := cy y (List.mem_cons_self ..)
    have hc : x.cur = y.cur := by
      rcases ltS_tri x.cur y.cur with h | h | h
      · have e := he x.cur
        rw [zAt_low hy h] at e
        simp only [zAt, if_pos] at e
        exact absurd e (val_ne h1.1 h1.2)
      · exact h
      · have e := he y.cur
        rw [zAt_low hx h] at e
        simp only [zAt, if_pos] at e
        exact absurd e.symm (val_ne h2.1 h2.2)
    have hv : x.amt = y.amt := by
      have e := he x.cur
      simp only [zAt, if_pos] at e
      rw [if_pos hc.symm] at e
      rw [h1.1, h2.1, e]
    have hr : r = s := by
      refine bag_ext (srt_tail hx) (srt_tail hy) (can_tail cx) (can_tail cy) fun c => ?_
      by_cases g : x.cur = c
      · rw [← g, zAt_tail hx, hc, zAt_tail hy]
      · have e := he c
        simp only [zAt, if_neg g] at e
        rw [if_neg (by rw [← hc]; exact g)] at e
        exact e
    rw [mon_eq hc hv, hr]
abbrev Yl := List UInt8 × List UInt8 × List UInt8
def bothM (x : Mon) (f : List Mon → List Yl) : List Mon → List Yl
  | [] => (x.cur, x.amt, []) :: f []
  | y :: s => if x.cur = y.cur then (x.cur, x.amt, y.amt) :: f s else if bytesLess x.cur y.cur = true then (x.cur, x.amt, []) :: f (y :: s) else (y.cur, [], y.amt) :: bothM x f s
def bothL : List Mon → List Mon → List Yl
  | [], b => b.map (fun y => (y.cur, [], y.amt))
  | x :: r, b => bothM x (bothL r) b
theorem both_nil (x : Mon) (r : List Mon) : bothL (x :: r) [] = (x.cur, x.amt, []) :: bothL r [] := rfl
theorem both_eq {x y : Mon} (h : x.cur = y.cur) (r s : List Mon) : bothL (x :: r) (y :: s) = (x.cur, x.amt, y.amt) :: bothL r s := by
  show bothM x (bothL r) (y :: s) = _
  rw [bothM, if_pos h]
theorem both_lt {x y : Mon} (h : bytesLess x.cur y.cur = true) (r s : List Mon) : bothL (x :: r) (y :: s) = (x.cur, x.amt, []) :: bothL r (y :: s) := by
  show bothM x (bothL r) (y :: s) = _
  rw [bothM, if_neg (ltS_ne h), if_pos h]
theorem both_gt {x y : Mon} (h : bytesLess y.cur x.cur = true) (r s : List Mon) : bothL (x :: r) (y :: s) = (y.cur, [], y.amt) :: bothL (x :: r) s := by
  show bothM x (bothL r) (y :: s) = _
  rw [bothM, if_neg (ltS_ne h).symm, if_neg (by rw [ltS_asym h]; decide)]
  rfl
def keepL : List Yl → List Mon
  | [] => []
  | y :: r => if val y.2.1 + val y.2.2 = 0 then keepL r else ⟨y.1, canon (val y.2.1 + val y.2.2)⟩ :: keepL r
def smL (a b : List Mon) : List Mon := keepL (bothL a b)
def zY : List Yl → List UInt8 → Int
  | [], _ => 0
  | y :: r, c => if y.1 = c then val y.2.1 + val y.2.2 else zY r c
def SrtY (ys : List Yl) : Prop := ys.Pairwise (fun x y => bytesLess x.1 y.1 = true)
structure BothOk (a b : List Mon) : Prop where
  srt : SrtY (bothL a b)
  key : ∀ y ∈ bothL a b, (∃ x ∈ a, x.cur = y.1) ∨ (∃ x ∈ b, x.cur = y.1)
  val : ∀ c, zY (bothL a b) c = zAt a c + zAt b c
theorem both_ok : ∀ a b : List Mon, Srt a → Srt b → BothOk a b
  | [], b, _, hb => by
    refine ⟨List.pairwise_map.2 hb, fun y hy => ?_, fun c => ?_⟩
    · obtain ⟨x, hx, rfl⟩ := List.mem_map.1 hy
      exact .inr ⟨x, hx, rfl⟩
    · show zY (b.map _) c = 0 + zAt b c
      rw [Int.zero_add]
      clear hb
      induction b with
      | nil => rfl
      | cons y s ih =>
        show (if y.cur = c then Num.val [] + Num.val y.amt else zY (s.map _) c) = if y.cur = c then Num.val y.amt else zAt s c
        rw [ih, val_nil, Int.zero_add]
  | x :: r, [], ha, hb => by
    have ih := both_ok r [] (srt_tail ha) hb
    rw [show BothOk (x :: r) [] = BothOk (x :: r) [] from rfl]
    refine ⟨?_, ?_, fun c => ?_⟩
    · rw [both_nil]
      refine List.pairwise_cons.2 ⟨fun y hy => ?_, ih.srt⟩
      rcases ih.key y hy with ⟨z, hz, e⟩ | ⟨z, hz, e⟩
      · rw [← e]; exact srt_head ha z hz
      · cases hz
    · rw [both_nil]
      intro y hy
      rcases List.mem_cons.1 hy with rfl | hy
      · exact .inl ⟨x, List.mem_cons_self .., rfl⟩
      · rcases ih.key y hy with ⟨z, hz, e⟩ | ⟨z, hz, e⟩
        · exact .inl ⟨z, List.mem_cons_of_mem _ hz, e⟩
        · cases hz
    · rw [both_nil]
      show (if x.cur = c then Num.val x.amt + Num.val [] else zY (bothL r []) c) = (if x.cur = c then Num.val x.amt else zAt r c) + 0
      rw [ih.val c, val_nil]
      split <;> simp [zAt]
  | x :: r, y :: s, ha, hb => by
    rcases ltS_tri x.cur y.cur with h | h | h
    · have ih := both_ok r (y :: s) (srt_tail ha) hb
      have e := both_lt h r s
      refine ⟨?_, ?_, fun c => ?_⟩
      · rw [e]
        refine List.pairwise_cons.2 ⟨fun u hu => ?_, ih.srt⟩
        rcases ih.key u hu with ⟨z, hz, e⟩ | ⟨z, hz, e⟩
        · rw [← e]; exact srt_head ha z hz
        · rw [← e]
          rcases List.mem_cons.1 hz with rfl | hz
          · exact h
          · exact ltS_trans h (srt_head hb z hz)
      · rw [e]
        intro u hu
        rcases List.mem_cons.1 hu with rfl | hu
        · exact .inl ⟨x, List.mem_cons_self .., rfl⟩
        · rcases ih.key u hu with ⟨z, hz, e⟩ | ⟨z, hz, e⟩
          · exact .inl ⟨z, List.mem_cons_of_mem _ hz, e⟩
          · exact .inr ⟨z, hz, e⟩
      · rw [e]
        show (if x.cur = c then Num.val x.amt + Num.val [] else zY (bothL r (y :: s)) c) = (if x.cur = c then Num.val x.amt else zAt r c) + zAt (y :: s) c
        rw [ih.val c, val_nil]
        by_cases g : x.cur = c
        · rw [if_pos g, if_pos g, ← g, zAt_low hb h]
        · rw [if_neg g, if_neg g]
    · have ih := both_ok r s (srt_tail ha) (srt_tail hb)
      have e := both_eq h r s
      refine ⟨?_, ?_, fun c => ?_⟩
      · rw [e]
        refine List.pairwise_cons.2 ⟨fun u hu => ?_, ih.srt⟩
        rcases ih.key u hu with ⟨z, hz, e⟩ | ⟨z, hz, e⟩
        · rw [← e]; exact srt_head ha z hz
        · rw [← e]; show bytesLess x.cur z.cur = true; rw [h]; exact srt_head hb z hz
      · rw [e]
        intro u hu
        rcases List.mem_cons.1 hu with rfl | hu
        · exact .inl ⟨x, List.mem_cons_self .., rfl⟩
        · rcases ih.key u hu with ⟨z, hz, e⟩ | ⟨z, hz, e⟩
          · exact .inl ⟨z, List.mem_cons_of_mem _ hz, e⟩
          · exact .inr ⟨z, List.mem_cons_of_mem _ hz, e⟩
      · rw [e]
        show (if x.cur = c then Num.val x.amt + Num.val y.amt else zY (bothL r s) c) = (if x.cur = c then Num.val x.amt else zAt r c) + (if y.cur = c then Num.val y.amt else zAt s c)
        rw [ih.val c, ← h]
        split <;> rfl
    · have ih := both_ok (x :: r) s ha (srt_tail hb)
      have e := both_gt h r s
      refine ⟨?_, ?_, fun c => ?_⟩
      · rw [e]
        refine List.pairwise_cons.2 ⟨fun u hu => ?_, ih.srt⟩
        rcases ih.key u hu with ⟨z, hz, e⟩ | ⟨z, hz, e⟩
        · rw [← e]
          rcases List.mem_cons.1 hz with rfl | hz
          · exact h
          · exact ltS_trans h (srt_head ha z hz)
        · rw [← e]; exact srt_head hb z hz
      · rw [e]
        intro u hu
        rcases List.mem_cons.1 hu with rfl | hu
        · exact .inr ⟨y, List.mem_cons_self .., rfl⟩
        · rcases ih.key u hu with ⟨z, hz, e⟩ | ⟨z, hz, e⟩
          · exact .inl ⟨z, hz, e⟩
          · exact .inr ⟨z, List.mem_cons_of_mem _ hz, e⟩
      · rw [e]
        show (if y.cur = c then Num.val [] + Num.val y.amt else zY (bothL (x :: r) s) c) = zAt (x :: r) c + (if y.cur = c then Num.val y.amt else zAt s c)
        rw [ih.val c, val_nil]
        by_cases g : y.cur = c
        · rw [if_pos g, if_pos g, ← g, zAt_low ha h]
        · rw [if_neg g, if_neg g]
theorem keep_key : ∀ {ys : List Yl} {x : Mon}, x ∈ keepL ys → ∃ y ∈ ys, y.1 = x.cur
  | y :: r, x, h => by
    unfold keepL at h
    split at h
    · obtain ⟨z, hz, e⟩ := keep_key h
      exact ⟨z, List.mem_cons_of_mem _ hz, e⟩
    · rcases List.mem_cons.1 h with rfl | h
      · exact ⟨y, List.mem_cons_self .., rfl⟩
      · obtain ⟨z, hz, e⟩ := keep_key h
        exact ⟨z, List.mem_cons_of_mem _ hz, e⟩
theorem keep_can : ∀ ys : List Yl, Can (keepL ys)
  | [] => fun x hx => by cases hx
  | y :: r => fun x hx => by
    unfold keepL at hx
    split at hx
    · exact keep_can r x hx
    · next h =>
      rcases List.mem_cons.1 hx with rfl | hx
      · exact ⟨by show canon _ = canon (Num.val (canon _)); rw [val_canon], fun e => h ((canon_eq_nil _).1 e)⟩
      · exact keep_can r x hx
theorem keep_srt : ∀ {ys : List Yl}, SrtY ys → Srt (keepL ys)
  | [], _ => List.Pairwise.nil
  | y :: r, h => by
    obtain ⟨h1, h2⟩ := List.pairwise_cons.1 h
    unfold keepL
    split
    · exact keep_srt h2
    · refine List.pairwise_cons.2 ⟨fun x hx => ?_, keep_srt h2⟩
      obtain ⟨z, hz, e⟩ := keep_key hx
      show bytesLess y.1 x.cur = true
      rw [← e]; exact h1 z hz
theorem keep_val : ∀ {ys : List Yl}, SrtY ys → ∀ c, zAt (keepL ys) c = zY ys c
  | [], _, _ => rfl
  | y :: r, h, c => by
    obtain ⟨h1, h2⟩ := List.pairwise_cons.1 h
    have ih := keep_val h2 c
    show zAt (if Num.val y.2.1 + Num.val y.2.2 = 0 then keepL r else ⟨y.1, canon (Num.val y.2.1 + Num.val y.2.2)⟩ :: keepL r) c = if y.1 = c then Num.val y.2.1 + Num.val y.2.2 else zY r c
    by_cases g : Num.val y.2.1 + Num.val y.2.2 = 0
    · rw [if_pos g]
      by_cases e : y.1 = c
      · rw [if_pos e, g]
        refine zAt_no fun x hx => ?_
        obtain ⟨z, hz, e2⟩ := keep_key hx
        rw [← e, ← e2]
        exact (ltS_ne (h1 z hz)).symm
      · rw [if_neg e]; exact ih
    · rw [if_neg g]
      show (if y.1 = c then Num.val (canon _) else zAt (keepL r) c) = _
      rw [val_canon, ih]
theorem sum_srt {a b : List Mon} (ha : Srt a) (hb : Srt b) : Srt (smL a b) := keep_srt (both_ok a b ha hb).srt
theorem sum_can (a b : List Mon) : Can (smL a b) := keep_can _
theorem sum_val {a b : List Mon} (ha : Srt a) (hb : Srt b) (c : List UInt8) : zAt (smL a b) c = zAt a c + zAt b c := (keep_val (both_ok a b ha hb).srt c).trans ((both_ok a b ha hb).val c)
theorem sum_key {a b : List Mon} (ha : Srt a) (hb : Srt b) {x : Mon} (hx : x ∈ smL a b) : (∃ y ∈ a, y.cur = x.cur) ∨ (∃ y ∈ b, y.cur = x.cur) := by
  obtain ⟨y, hy, e⟩ := keep_key hx
  rw [← e]; exact (both_ok a b ha hb).key y hy
def negM (x : Mon) : Mon := ⟨x.cur, canon (- val x.amt)⟩
theorem neg_srt {a : List Mon} (h : Srt a) : Srt (a.map negM) := List.pairwise_map.2 h
theorem neg_can {a : List Mon} (h : Can a) : Can (a.map negM) := fun y hy => by
  obtain ⟨x, hx, rfl⟩ := List.mem_map.1 hy
  refine ⟨by show canon _ = canon (Num.val (canon _)); rw [val_canon], fun e => ?_⟩
  have h1 := h x hx
  have := (canon_eq_nil _).1 e
  exact val_ne h1.1 h1.2 (by omega)
theorem neg_val : ∀ (a : List Mon) (c : List UInt8), zAt (a.map negM) c = - zAt a c
  | [], _ => rfl
  | x :: r, c => by
    show (if x.cur = c then Num.val (canon _) else zAt (r.map negM) c) = - (if x.cur = c then Num.val x.amt else zAt r c)
    rw [neg_val r c, val_canon]
    split <;> rfl
def amtL : List Mon → List UInt8 → List UInt8
  | [], _ => []
  | x :: r, c => if x.cur = c then x.amt else amtL r c
theorem amt_canon : ∀ {a : List Mon} {c : List UInt8}, (∀ x ∈ a, x.amt = canon (val x.amt)) → amtL a c = canon (zAt a c)
  | [], _, _ => rfl
  | x :: r, c, h => by
    show (if x.cur = c then x.amt else amtL r c) = canon (if x.cur = c then Num.val x.amt else zAt r c)
    split
    · exact h x (List.mem_cons_self ..)
    · exact amt_canon fun y hy => h y (List.mem_cons_of_mem _ hy)
end Go.Proofs.YtgnppdkeiihlfaaGreatDoor
namespace Go.Proofs.YtgnppdkeiihlfaaGreatDoor
open Num Go.Op
structure Bag (xs : List Mon) : Prop where
  srt : Srt xs
  can : Can xs
theorem bag_nil : Bag [] := ⟨List.Pairwise.nil, fun x hx => by cases hx⟩
theorem bag_neg {a : List Mon} (ha : Bag a) : Bag (a.map negM) := ⟨neg_srt ha.srt, neg_can ha.can⟩
theorem bag_eq {a b : List Mon} (ha : Bag a) (hb : Bag b) (h : ∀ c, zAt a c = zAt b c) : a = b := bag_ext ha.srt hb.srt ha.can hb.can h
theorem both_len : ∀ a b : List Mon, (bothL a b).length ≤ a.length + b.length
  | [], b => by simp [bothL]
  | x :: r, b => by
    show (bothM x (bothL r) b).length ≤ _
    induction b with
    | nil =>
      have := both_len r []
      simp [bothM] at this ⊢; omega
    | cons y s ih =>
      unfold bothM
      split
      · have := both_len r s; simp; omega
      · split
        · have := both_len r (y :: s); simp at this ⊢; omega
        · simp at ih ⊢; omega
theorem keep_len : ∀ ys : List Yl, (keepL ys).length ≤ ys.length
  | [] => Nat.le_refl _
  | y :: r => by
    have := keep_len r
    unfold keepL
    split <;> simp <;> omega
theorem smL_len (a b : List Mon) : (smL a b).length ≤ a.length + b.length := Nat.le_trans (keep_len _) (both_len a b)
def AmtLt (k : Nat) (xs : List Mon) : Prop := ∀ x ∈ xs, (val x.amt).natAbs < 10 ^ k
theorem zAt_lt {k : Nat} : ∀ {xs : List Mon}, AmtLt k xs → ∀ c, (zAt xs c).natAbs < 10 ^ k
  | [], _, _ => Nat.pow_pos (by decide)
  | x :: r, h, c => by
    show (if x.cur = c then Num.val x.amt else zAt r c).natAbs < _
    split
    · exact h x (List.mem_cons_self ..)
    · exact zAt_lt (fun y hy => h y (List.mem_cons_of_mem _ hy)) c
theorem zAt_mem : ∀ {xs : List Mon}, Srt xs → ∀ x ∈ xs, zAt xs x.cur = val x.amt
  | x :: r, h, y, hy => by
    show (if x.cur = y.cur then Num.val x.amt else zAt r y.cur) = _
    rcases List.mem_cons.1 hy with rfl | hy
    · rw [if_pos rfl]
    · rw [if_neg (ltS_ne (srt_head h y hy))]; exact zAt_mem (srt_tail h) y hy
theorem sum_lt {k : Nat} {a b : List Mon} (ha : Srt a) (hb : Srt b) (h : AmtLt k a) (h' : AmtLt k b) : AmtLt (k + 1) (smL a b) := fun x hx => by
  have e := zAt_mem (sum_srt ha hb) x hx
  rw [sum_val ha hb] at e
  have h1 := zAt_lt h x.cur
  have h2 := zAt_lt h' x.cur
  rw [← e, Nat.pow_succ]
  omega
theorem one_srt (m : Mon) : Srt [m] := List.pairwise_singleton _ _
def putL (a : List Mon) (m : Mon) : List Mon := smL a [m]
theorem put_bag {a : List Mon} (h : Bag a) (m : Mon) : Bag (putL a m) := ⟨sum_srt h.srt (one_srt m), sum_can _ _⟩
theorem put_val {a : List Mon} (h : Bag a) (m : Mon) (c : List UInt8) : zAt (putL a m) c = zAt a c + if m.cur = c then val m.amt else 0 := sum_val h.srt (one_srt m) c
theorem put_lt {k : Nat} {a : List Mon} (h : Bag a) (h1 : AmtLt k a) {m : Mon} (hm : (val m.amt).natAbs < 10 ^ k) : AmtLt (k + 1) (putL a m) :=
  sum_lt h.srt (one_srt m) h1 (fun x hx => by rw [List.mem_singleton.1 hx]; exact hm)
theorem can_len {k : Nat} {xs : List Mon} (h : Can xs) (h2 : AmtLt k xs) : ∀ x ∈ xs, x.amt.length ≤ k + 1 := fun x hx => by
  rw [(h x hx).1]; exact canon_len_le _ _ (h2 x hx)
end Go.Proofs.YtgnppdkeiihlfaaGreatDoor
namespace Go.Proofs
open Go.Shelf
def Tryz.cloneMon_ren : Go.Shelf.Ren := ⟨fun | 41 => 80 | n => n, fun | 22 => 42 | 23 => 48 | 4 => 4 | n => n, fun | n => n⟩
theorem Tryz.cloneMon : Go.Proofs.SlLaysE0.n41 Tryz.prog Tryz.cloneMon_ren := {
  mixed := by kernel_rfl
  f41 := ⟨Tryz.f80.name, by decide, Tryz.func80.trans (congrArg some (by kernel_rfl))⟩
  t4 := Tryz.underlying4
  a4 := Tryz.isAgg4
  z4 := Tryz.sizeOf4
  v4 := Tryz.zeroValue4
  t22 := Tryz.underlying42
  a22 := Tryz.isAgg42
  z22 := Tryz.sizeOf42
  v22 := Tryz.zeroValue42 }
end Go.Proofs
namespace Go.Proofs.YtgnppdkeiihlfaaGreatDoor
open Go.RowKit Num
def CRow (w : World) (g : Nat) (ty : TypeId) (cs : List Value) : Prop := ∃ cur : Array Value, w.heap[g]? = some (.cells cur ty (0, 0)) ∧ cur.toList.take cs.length = cs ∧ cs.length ≤ cur.size
section
variable {w w' : World} {g b i : Nat} {ty : TypeId} {cs : List Value} {u v : Value}
theorem CRow.lt (h : CRow w g ty cs) : g < w.heap.size := by obtain ⟨cur, h, -⟩ := h; exact (Array.getElem?_eq_some_iff.1 h).1
theorem CRow.below (h : CRow w g ty cs) (hb : Below w.heap.size w w') : CRow w' g ty cs := by
  have hl := h.lt
  obtain ⟨cur, h, h2⟩ := h
  exact ⟨cur, (hb.block g hl).trans h, h2⟩
theorem CRow.cell (h : CRow w g ty cs) (hx : cs[i]? = some v) : w.cell? ⟨g, i, none⟩ = some v := by
  obtain ⟨cur, hh, ht, hs⟩ := h
  have hi := (List.getElem?_eq_some_iff.1 hx).1
  rw [blk_cell hh, ← hx, ← ht, List.getElem?_take, if_pos hi, Array.getElem?_toList]
theorem CRow.free (h : CRow w g ty cs) (j : Nat) : w.frozen? ⟨g, j, none⟩ = false := by
  obtain ⟨cur, hh, -⟩ := h
  exact blk_frozen hh j
theorem CRow.set (h : CRow w g ty cs) (i : Nat) (u : Value) : CRow (w.setCell ⟨g, i, none⟩ u) g ty (cs.set i u) := by
  obtain ⟨cur, hh, ht, hs⟩ := h
  refine ⟨cur.setIfInBounds i u, ?_, ?_, by simpa using hs⟩
  · obtain ⟨hlt, hk⟩ := Array.getElem?_eq_some_iff.1 hh
    show (w.heap.modify g _)[g]? = _
    rw [Array.getElem?_eq_getElem (by rw [Array.size_modify]; exact hlt), Array.getElem_modify_self, hk]
    simp
  · rw [List.length_set, Array.toList_setIfInBounds, List.take_set, ht]
end
theorem own_crow {w : World} {base n c sz : Nat} {ty : TypeId} {A : Option Addr} {cs : List Value} (h : w.ownsRow base ty sz (.slice A n c) n cs) (hn : cs.length = n * sz) (h0 : 0 < n) : ∃ g, A = some ⟨g, 0, none⟩ ∧ base ≤ g ∧ CRow w g ty cs := by
  rcases h.2 with ⟨hv, h1⟩ | ⟨g, cap, cur, hv, hb, hh, hcap, _, hsz, htk⟩
  · omega
  · injection hv with h1 _ h3
    subst h1 h3
    refine ⟨g, rfl, hb, cur, hh, by rw [hn]; exact htk, ?_⟩
    rw [hn, hsz]; exact Nat.mul_le_mul_right sz hcap
def MonAt (w : World) (A : Option Addr) (ts : List Mon) : Prop := ∀ i t, ts[i]? = some t → ∃ b o, A = some ⟨b, o, none⟩ ∧ b < w.heap.size ∧ w.cell? ⟨b, o + i * 2, none⟩ = some (.string ⟨t.cur.toArray⟩) ∧ w.cell? ⟨b, o + i * 2 + 1, none⟩ = some (.string ⟨t.amt.toArray⟩)
theorem MonAt.below {w w' : World} {A : Option Addr} {ts : List Mon} (h : MonAt w A ts) (hb : Below w.heap.size w w') : MonAt w' A ts := fun i t ht => by
  obtain ⟨b, o, h0, h1, h2, h3⟩ := h i t ht
  exact ⟨b, o, h0, Nat.lt_of_lt_of_le h1 hb.size, (hb.cell (p := ⟨b, o + i * 2, none⟩) h1).trans h2, (hb.cell (p := ⟨b, o + i * 2 + 1, none⟩) h1).trans h3⟩
def rowsM (xs : List Mon) : List Value := xs.flatMap (fun t => [.string ⟨t.cur.toArray⟩, .string ⟨t.amt.toArray⟩])
theorem rowsM_cons (t : Mon) (xs : List Mon) : rowsM (t :: xs) = .string ⟨t.cur.toArray⟩ :: .string ⟨t.amt.toArray⟩ :: rowsM xs := rfl
theorem rowsM_len : ∀ xs : List Mon, (rowsM xs).length = xs.length * 2
  | [] => rfl
  | x :: xs => by rw [rowsM_cons]; simp only [List.length_cons]; rw [rowsM_len xs]; omega
theorem rowsM_app (xs ys : List Mon) : rowsM (xs ++ ys) = rowsM xs ++ rowsM ys := List.flatMap_append
theorem rowsM_one (xs : List Mon) : ∀ u ∈ rowsM xs, u.oneCell' = true := by
  intro u hu
  obtain ⟨x, -, hx⟩ := List.mem_flatMap.1 hu
  simp only [List.mem_cons, List.not_mem_nil, or_false] at hx
  rcases hx with rfl | rfl <;> rfl
theorem rowsM_at : ∀ {xs : List Mon} {i : Nat} {t : Mon}, xs[i]? = some t → (rowsM xs)[i * 2]? = some (.string ⟨t.cur.toArray⟩) ∧ (rowsM xs)[i * 2 + 1]? = some (.string ⟨t.amt.toArray⟩)
  | [], i, x, h => by simp at h
  | y :: xs, 0, x, h => by
    have : y = x := by simpa using h
    subst this; exact ⟨rfl, rfl⟩
  | y :: xs, i + 1, x, h => by
    have hh := rowsM_at (xs := xs) (i := i) (t := x) (by simpa using h)
    rw [rowsM_cons, show (i + 1) * 2 = i * 2 + 1 + 1 by omega]
    simpa [Nat.add_right_comm, Nat.add_assoc] using hh
theorem rowsM_get : ∀ {xs : List Mon} {j : Nat} {u : Value}, (rowsM xs)[j]? = some u → ∃ t, xs[j / 2]? = some t ∧ u = if j % 2 = 0 then .string ⟨t.cur.toArray⟩ else .string ⟨t.amt.toArray⟩
  | [], j, u, h => by simp [rowsM] at h
  | y :: xs, 0, u, h => by
    rw [rowsM_cons] at h
    exact ⟨y, rfl, by simpa using h.symm⟩
  | y :: xs, 1, u, h => by
    rw [rowsM_cons] at h
    exact ⟨y, rfl, by simpa using h.symm⟩
  | y :: xs, j + 2, u, h => by
    rw [rowsM_cons] at h
    obtain ⟨x, h1, h2⟩ := rowsM_get (xs := xs) (j := j) (by simpa using h)
    refine ⟨x, ?_, ?_⟩
    · rw [show (j + 2) / 2 = j / 2 + 1 by omega]; simpa using h1
    · rw [show (j + 2) % 2 = j % 2 by omega]; exact h2
theorem crow_mon {w : World} {g : Nat} {ty : TypeId} {xs : List Mon} (h : CRow w g ty (rowsM xs)) : MonAt w (some ⟨g, 0, none⟩) xs := fun i t ht => by
  obtain ⟨h0, h1⟩ := rowsM_at ht
  exact ⟨g, 0, rfl, h.lt, by rw [Nat.zero_add]; exact h.cell h0, by rw [Nat.zero_add]; exact h.cell h1⟩
theorem info_mon : (Tryz.prog.info? 48).map (fun i => (i.zero, i.size, i.bytes)) = some (some (.agg #[.string ⟨#[]⟩, .string ⟨#[]⟩]), 2, 32) := by kernel_rfl
theorem eqf_step {P : Program} {w : World} {d : Nat} {xs ys : Array Value} {f : Field} {fs : List Field} {a b : Value} {r B : Bool} (hn : f.name ≠ "_") (h1 : (part f.type xs f.offset).run P w = .ok a w) (h2 : (part f.type ys f.offset).run P w = .ok b w) (h3 : (Op.equalIn d f.type a b).run P w = .ok r w) (h4 : (Op.eqFields d xs ys fs).run P w = .ok B w) :
    (Op.eqFields d xs ys (f :: fs)).run P w = .ok (r && B) w := by
  unfold Op.eqFields
  rw [if_pos hn]
  simp only [Sem.run_bind, h1, h2, h3, Result.andThen_ok]
  cases r
  · simp
  · simp [h4]
theorem eqf_nil {P : Program} {w : World} {d : Nat} {xs ys : Array Value} : (Op.eqFields d xs ys []).run P w = .ok true w := by unfold Op.eqFields; simp
def sameM (x y : Mon) : Bool := (x.cur == y.cur) && ((x.amt == y.amt) && true)
set_option maxRecDepth 100000 in
theorem eqM1 (x y : Mon) (w : World) : (Op.equalIn 10000 48 (.agg #[.string ⟨x.cur.toArray⟩, .string ⟨x.amt.toArray⟩]) (.agg #[.string ⟨y.cur.toArray⟩, .string ⟨y.amt.toArray⟩])).run Tryz.prog w = .ok (sameM x y) w := by
  have hS : Tryz.prog.underlying 48 = some (.struct (Tryz.prog.fieldsOf 48)) := by kernel_rfl
  have hp : Tryz.prog.stoodInHeld 48 = false := by kernel_rfl
  rw [show (10000 : Nat) = 9999 + 1 from rfl, run_equalIn_agg w 9999 48 _ _ hS hp]
  simp only [Program.fieldsOf, Tryz.underlying48]
  unfold sameM
  exact (eqf_step (by decide) (a := .string ⟨x.cur.toArray⟩) (b := .string ⟨y.cur.toArray⟩) (by go_simp) (by go_simp) (by rw [run_equalIn_string w 9998 _ _ _ Tryz.underlying9]; simp) (eqf_step (by decide) (a := .string ⟨x.amt.toArray⟩) (b := .string ⟨y.amt.toArray⟩) (by go_simp) (by go_simp) (by rw [run_equalIn_string w 9998 _ _ _ Tryz.underlying23]; simp) eqf_nil))
theorem guardM : Tryz.prog.eqGuardType Tryz.prog.depth 48 = false := by kernel_rfl
def sameMs : List Mon → List Mon → Bool
  | [], [] => true
  | x :: xs, y :: ys => sameM x y && sameMs xs ys
  | _, _ => false
theorem sameMs_len : ∀ {xs ys : List Mon}, xs.length ≠ ys.length → sameMs xs ys = false
  | [], [], h => absurd rfl h
  | [], _ :: _, _ => rfl
  | _ :: _, [], _ => rfl
  | x :: xs, y :: ys, h => by
    have : sameMs xs ys = false := sameMs_len (fun e => h (by simp [e]))
    simp [sameMs, this]
theorem sameMs_self : ∀ xs : List Mon, sameMs xs xs = true
  | [] => rfl
  | x :: xs => by simp [sameMs, sameM, sameMs_self xs]
theorem sameMs_drop {xs ys : List Mon} {k : Nat} {x y : Mon} (hx : xs[k]? = some x) (hy : ys[k]? = some y) : sameMs (xs.drop k) (ys.drop k) = (sameM x y && sameMs (xs.drop (k + 1)) (ys.drop (k + 1))) := by
  obtain ⟨h1, rfl⟩ := List.getElem?_eq_some_iff.1 hx
  obtain ⟨h2, rfl⟩ := List.getElem?_eq_some_iff.1 hy
  rw [List.drop_eq_getElem_cons h1, List.drop_eq_getElem_cons h2]; rfl
set_option maxHeartbeats 4000000 in
set_option maxRecDepth 100000 in
theorem eqMs (A B : Option Addr) (xs ys : List Mon) (n m c c' : Nat) (w : World) (hn : xs.length = n) (hm : ys.length = m) (hn2 : n ≤ 1000000000) (hm2 : m ≤ 1000000000) (h : MonAt w A xs) (h' : MonAt w B ys) :
    Calls Tryz.prog 26 #[.slice A n c, .slice B m c'] w fun e w' => e = .returned (.bool (sameMs xs ys)) ∧ Below w.heap.size w w' := by
  by_cases hnm : n = m
  rotate_left
  · have HV : Hid (sameMs xs ys = false) := sameMs_len (by omega)
    have e1 : ((n : Int) == (m : Int)) = false := intbne (by omega)
    have e2 := bneq' e1
    rw [HV.out]
    clear h h' hn hm hnm
    go_enter Tryz.func26, Tryz.ntmps26
    go_wp2
    go_ret
    exact ⟨rfl, Below.refl _ _⟩
  subst hnm
  have H1 := Lib.hid h
  have H2 := Lib.hid h'
  have hn1 : xs.length ≤ n := by omega
  have hn3 : n ≤ xs.length := by omega
  have hm1 : ys.length ≤ n := by omega
  have hm3 : n ≤ ys.length := by omega
  clear h h' hn hm
  go_enter Tryz.func26, Tryz.ntmps26
  go_wp2_with fail
  go_loopw [13] (fun iv wr => ∃ k : Nat, k ≤ n ∧ iv = .int .i64 (k : Int) ∧ Hid (sameMs xs ys = sameMs (xs.drop k) (ys.drop k)) ∧ Below w.heap.size w wr) (fun iv _ => n - (intOf iv).toNat)
  case atStart => exact ⟨0, Nat.zero_le _, rfl, rfl, Below.refl _ _⟩
  case round =>
    obtain ⟨k, hk, rfl, HK, hb⟩ := hrel
    by_cases hlt : k < n
    · obtain ⟨x, hx⟩ : ∃ x, xs[k]? = some x := ⟨_, List.getElem?_eq_getElem (by omega)⟩
      obtain ⟨y, hy⟩ : ∃ y, ys[k]? = some y := ⟨_, List.getElem?_eq_getElem (by omega)⟩
      obtain ⟨b, o, rfl, hbs, px0, px1⟩ := (H1.out.below hb) k x hx
      obtain ⟨b', o', rfl, hds, py0, py1⟩ := (H2.out.below hb) k y hy
      have HD := Lib.hid (sameMs_drop hx hy)
      clear hx hy
      go_wp2_with fail
      refine wp_region_kept (by kernel_rfl) (by kernel_rfl) ?_
      iterate 3
        refine kept_val _ (fun _ => rfl) (fun ρ w hw => by go_simp; first | done | with_reducible rfl) ?_
        simp only [Act.put, List.setIfInBounds_toArray, List.set_cons_zero, List.set_cons_succ, Nat.reduceAdd]
      refine kept_val _ (fun _ => rfl) (fun ρ w hw => by have q0 := (hw.cell (p := ⟨b, o + k * 2, none⟩) hbs).trans px0; have q1 := (hw.cell (p := ⟨b, o + k * 2 + 1, none⟩) hbs).trans px1; go_simp; first | done | with_reducible rfl) ?_
      iterate 3
        simp only [Act.put, List.setIfInBounds_toArray, List.set_cons_zero, List.set_cons_succ, Nat.reduceAdd]
        refine kept_val _ (fun _ => rfl) (fun ρ w hw => by go_simp; first | done | with_reducible rfl) ?_
      simp only [Act.put, List.setIfInBounds_toArray, List.set_cons_zero, List.set_cons_succ, Nat.reduceAdd]
      refine kept_val _ (fun _ => rfl) (fun ρ w hw => by have q0 := (hw.cell (p := ⟨b', o' + k * 2, none⟩) hds).trans py0; have q1 := (hw.cell (p := ⟨b', o' + k * 2 + 1, none⟩) hds).trans py1; go_simp; first | done | with_reducible rfl) ?_
      simp only [Act.put, List.setIfInBounds_toArray, List.set_cons_zero, List.set_cons_succ, Nat.reduceAdd]
      refine kept_val _ (fun _ => rfl) (fun ρ w hw => by have hE := eqM1 x y; have hEG := guardM; go_simp; first | done | with_reducible rfl) ?_
      simp only [Act.put, List.setIfInBounds_toArray, List.set_cons_zero, List.set_cons_succ, Nat.reduceAdd]
      refine kept_end (fun ρ w6 hF => ?_)
      replace hb := bto hb hF.below
      clear hF
      cases hs : sameM x y
      · have HV : Hid (sameMs xs ys = false) := by show _ = _; rw [HK.out, HD.out, hs]; rfl
        clear hs HK HD px0 py0 px1 py1
        go_wp2
        go_ret
        exact ⟨by rw [HV.out]; first | done | rfl, hb⟩
      · have HV : Hid (sameMs xs ys = sameMs (xs.drop (k + 1)) (ys.drop (k + 1))) := by show _ = _; rw [HK.out, HD.out, hs]; rfl
        clear hs HK HD px0 py0 px1 py1
        go_wp2
        go_roundw
        case rel => exact ⟨k + 1, by omega, by go_num, HV, hb⟩
        case measure => simp [intOf]; omega
    · have HV : Hid (sameMs xs ys = true) := by show _ = _; rw [HK.out, List.drop_of_length_le (by omega), List.drop_of_length_le (by omega)]; rfl
      clear HK
      go_wp2
      go_ret
      exact ⟨by rw [HV.out]; first | done | rfl, hb⟩
theorem cloneM (A : Option Addr) (ps : List Mon) (n c : Nat) (w : World) (hn : ps.length = n) (h0 : 0 < n) (hn2 : n ≤ 1000000) (h : MonAt w A ps) :
    Calls Tryz.prog 80 #[.slice A n c] w fun e w' => ∃ g cp, e = .returned (.slice (some ⟨g, 0, none⟩) n cp) ∧ n ≤ cp ∧ cp ≤ 9223372036854775807 ∧ w.heap.size ≤ g ∧ w'.ownsRow w.heap.size 48 2 (.slice (some ⟨g, 0, none⟩) n cp) n (rowsM ps) ∧ CRow w' g 48 (rowsM ps) ∧ Below w.heap.size w w' := by
  obtain ⟨x0, hx0⟩ : ∃ x, ps[0]? = some x := ⟨_, List.getElem?_eq_getElem (by omega)⟩
  obtain ⟨b, o, rfl, hbs, -⟩ := h 0 x0 hx0
  obtain ⟨i0, e0, e1, e2, e3⟩ := info_parts info_mon
  refine (AnyE.slices_Clone Tryz.cloneMon i0 _ 2 32 e0 e1 e2 e3 rfl (by decide) Tryz.sizeOf48 b o n c (rowsM ps) w (by rw [rowsM_len, hn]) (by unfold maxLen; omega) (by omega) (fun j u hu => ?_) (rowsM_one ps)).mono ?_
  · obtain ⟨x, h1, h2⟩ := rowsM_get hu
    obtain ⟨b', o', hA, -, hc1, hc2⟩ := h (j / 2) x h1
    cases hA
    by_cases hj : j % 2 = 0
    · rw [if_pos hj] at h2
      rw [h2, show o + j = o + j / 2 * 2 by omega]; exact hc1
    · rw [if_neg hj] at h2
      rw [h2, show o + j = o + j / 2 * 2 + 1 by omega]; exact hc2
  · rintro e w' ⟨v, rfl, hown, -, hb⟩
    have hown' : w'.ownsRow w.heap.size 48 2 v n (rowsM ps) := hown
    obtain ⟨B, cp, rfl, hcp, hcm⟩ : ∃ A c, v = .slice A n c ∧ n ≤ c ∧ c ≤ 9223372036854775807 := by
      rcases hown'.2 with ⟨hv, h1⟩ | ⟨g, cap, cur, hv, _, _, hcap, hmx, _⟩
      · omega
      · exact ⟨_, _, hv, hcap, by first | exact hmx | (unfold maxLen at hmx; exact hmx) | omega⟩
    obtain ⟨g, rfl, hg, hr⟩ := own_crow hown' (by rw [rowsM_len, hn]) h0
    exact ⟨g, cp, rfl, hcp, hcm, hg, hown', hr, hb⟩
set_option maxRecDepth 100000 in
theorem cloneM0 (A : Option Addr) (c : Nat) (w : World) :
    Calls Tryz.prog 80 #[.slice A 0 c] w fun e w' => ∃ B cp, e = .returned (.slice B 0 cp) ∧ Below w.heap.size w w' := by
  cases A with
  | none =>
    refine (AnyE.slices_Clone_nil Tryz.cloneMon 0 c w).mono ?_
    rintro e w' ⟨rfl, rfl⟩
    exact ⟨none, 0, rfl, Below.refl _ _⟩
  | some a =>
    obtain ⟨i0, hi, hz0, hz1, hz2⟩ := info_parts info_mon
    have q22 : ∀ w, (binOp .eql 42 (.slice (some a) 0 c) (.slice none 0 0)).run Tryz.prog w = .ok (.bool false) w := fun w => Lib.run_eql_slice_nil w _ _ (some a) 0 c 0 0 Tryz.underlying42
    go_enter Tryz.func80, Tryz.ntmps80
    go_wp2_with (at_builtin; refine wpList_append_own _ rfl _ _ 42 rfl w.heap.size 48 i0 (.agg #[.string ⟨#[]⟩, .string ⟨#[]⟩]) 2 32 Tryz.underlying42 hi hz0 hz1 hz2 rfl (by decide) _ _ _ rfl (World.ownsRow_made w #[] 0 (Nat.le_refl _) (Nat.zero_le _) (by simp)) a 0 c [] rfl ?qc1 ?qc2 ?qc3 ?qc4 ?qc5 ?qc6 ?_)
    case qc1 => rfl
    case qc2 => intro j u hu; simp at hu
    case qc3 => intro u hu; simp at hu
    case qc4 => unfold maxLen; omega
    case qc5 => omega
    case qc6 => simp
    intro v' w' hown hgrow _
    obtain ⟨B, cp, rfl⟩ : ∃ B cp, v' = .slice B 0 cp := by
      rcases hown.2 with ⟨rfl, -⟩ | ⟨g, cap, cur, rfl, -⟩
      · exact ⟨_, _, rfl⟩
      · exact ⟨_, _, rfl⟩
    have hb := Below.grown (below_alloc w (.cells #[] 48)) hgrow (by simp) (fun k hk => by simp [Value.ownBlock] at hk; omega)
    go_wp2
    go_ret
    exact ⟨_, _, rfl, hb⟩
end Go.Proofs.YtgnppdkeiihlfaaGreatDoor
namespace Go.Proofs.YtgnppdkeiihlfaaGreatDoor
open Go.RowKit
section
variable {P : Program} {ops : Array Oper} {C : World → Prop} {Q : St → Bx → Prop} {rest : List Oper} {i : Nat} {a : St} {B : Bx} {o : Oper}
theorem turnedC (w : World) (b j : Nat) (cs : Array Value) (x : Value) (t : TypeId) (h : w.heap[b]? = some (.cells cs t (0, 0))) : Turned w (w.setCell ⟨b, j, none⟩ x) b (.cells (cs.setIfInBounds j x) t (0, 0)) := by
  refine ⟨rfl, rfl, rfl, by simp, ?_, fun k hk => Below.heap_setCell w ⟨b, j, none⟩ x k hk⟩
  obtain ⟨hlt, hk⟩ := Array.getElem?_eq_some_iff.1 h
  show (w.heap.modify b _)[b]? = _
  rw [Array.getElem?_eq_getElem (by rw [Array.size_modify]; exact hlt), Array.getElem_modify_self, hk]
  rfl
section
variable {md : Region.Mode}
end
end
end Go.Proofs.YtgnppdkeiihlfaaGreatDoor
