/- Package instrument: Check. -/
import Derived.Test.YtmjglcgdcclinaaGreatDoorIe
import Derived.Deep.DeepCutAuto
namespace Go.Proofs.YtmjglcgdcclinaaGreatDoor
open Go.RowKit Num
def endsB (x : Ins) : Bool := decide (x.kind = 2) || decide (x.kind = 5)
def matB (x : Ins) : Bool := (decide (x.matures ≠ 0) && (!dayB x.matures || decide (x.matures ≤ x.issued))) || (decide (x.matures = 0) && endsB x)
theorem mat_0 {x : Ins} (h : x.matures = 0) : matB x = endsB x := by unfold matB; rw [decide_eq_true h, decide_eq_false (by simpa using h)]; simp
theorem mat_1 {x : Ins} (h : ¬ x.matures = 0) (h1 : dayB x.matures = false) : matB x = true := by unfold matB; rw [decide_eq_true h, h1]; simp
theorem mat_2 {x : Ins} (h : ¬ x.matures = 0) (h1 : x.matures ≤ x.issued) : matB x = true := by unfold matB; rw [decide_eq_true h, decide_eq_true h1]; simp
theorem mat_3 {x : Ins} (h : ¬ x.matures = 0) (h1 : dayB x.matures = true) (h2 : ¬ x.matures ≤ x.issued) : matB x = false := by unfold matB; rw [decide_eq_true h, decide_eq_false h2, decide_eq_false h, h1]; rfl
def ownE (x : Ins) : Int := if x.kind = 2 then bondE x else if x.kind = 5 then fwdE x else plainE x
def numsE (x : Ins) : Int := if numE x.fn x.fd ≠ 0 then numE x.fn x.fd else if numE x.cn x.cd ≠ 0 then numE x.cn x.cd else numE x.sn x.sd
def tailE (x : Ins) : Int := if matB x = true then 13 else if numsE x ≠ 0 then numsE x else ownE x
/-- what Check returns -/
def chkE (x : Ins) : Int := if ¬ nameB x.id = true then 23 else if x.kind < 1 ∨ 5 < x.kind then 7 else if ¬ codeB x.cur = true then 12 else if x.places < 0 ∨ 12 < x.places then 2 else if ¬ dayB x.issued = true then 13 else tailE x
theorem rule1 (w : World) : (Instr.index 151 rulesV (.int .i64 1)).run Tryz.prog w = .ok (.agg #[.bool false, .func (Fn.func 184) #[] #[]]) w := by kernel_rfl
theorem rule2 (w : World) : (Instr.index 151 rulesV (.int .i64 2)).run Tryz.prog w = .ok (.agg #[.bool true, .func (Fn.func 185) #[] #[]]) w := by kernel_rfl
theorem rule3 (w : World) : (Instr.index 151 rulesV (.int .i64 3)).run Tryz.prog w = .ok (.agg #[.bool false, .func (Fn.func 184) #[] #[]]) w := by kernel_rfl
theorem rule4 (w : World) : (Instr.index 151 rulesV (.int .i64 4)).run Tryz.prog w = .ok (.agg #[.bool false, .func (Fn.func 184) #[] #[]]) w := by kernel_rfl
theorem rule5 (w : World) : (Instr.index 151 rulesV (.int .i64 5)).run Tryz.prog w = .ok (.agg #[.bool true, .func (Fn.func 186) #[] #[]]) w := by kernel_rfl
theorem call_plain (args : Array Value) (w : World) : (callFunc 184 args).run Tryz.prog w = .ok (.enter 184 args) w := by kernel_rfl
theorem call_bond (args : Array Value) (w : World) : (callFunc 185 args).run Tryz.prog w = .ok (.enter 185 args) w := by kernel_rfl
theorem call_forward (args : Array Value) (w : World) : (callFunc 186 args).run Tryz.prog w = .ok (.enter 186 args) w := by kernel_rfl
set_option maxRecDepth 100000 in
theorem own_rule (x : Ins) (hx : x.Small) (h1 : ¬ x.kind < 1) (h2 : ¬ 5 < x.kind) : ∃ (ends : Bool) (f : Nat), (∀ w, (Instr.index 151 rulesV (.int .i64 x.kind)).run Tryz.prog w = .ok (.agg #[.bool ends, .func (Fn.func f) #[] #[]]) w) ∧ ends = endsB x ∧ Ret f #[(Value.agg #[Value.string ⟨List.toArray x.id⟩, Value.int .i64 x.kind, Value.string ⟨List.toArray x.cur⟩, Value.int .i64 x.places, Value.int .i64 x.issued, Value.int .i64 x.matures, Value.string ⟨List.toArray x.fn⟩, Value.string ⟨List.toArray x.fd⟩, Value.string ⟨List.toArray x.cn⟩, Value.string ⟨List.toArray x.cd⟩, Value.int .i64 x.months, Value.int .i64 x.count, Value.string ⟨List.toArray x.other⟩, Value.string ⟨List.toArray x.sn⟩, Value.string ⟨List.toArray x.sd⟩])] (.int .i64 (ownE x)) ∧ ∀ (args : Array Value) w, (callFunc f args).run Tryz.prog w = .ok (.enter f args) w := by
  have hp := iPlain x hx
  have hb := iBond x hx
  have hf := iFwd x hx
  have hk : x.kind = 1 ∨ x.kind = 2 ∨ x.kind = 3 ∨ x.kind = 4 ∨ x.kind = 5 := by omega
  unfold ownE endsB
  rcases hk with h | h | h | h | h
  · exact ⟨false, 184, fun w => by rw [h]; exact rule1 w, by rw [h]; rfl, by rw [if_neg (by omega), if_neg (by omega)]; exact hp, call_plain⟩
  · exact ⟨true, 185, fun w => by rw [h]; exact rule2 w, by rw [h]; rfl, by rw [if_pos h]; exact hb, call_bond⟩
  · exact ⟨false, 184, fun w => by rw [h]; exact rule3 w, by rw [h]; rfl, by rw [if_neg (by omega), if_neg (by omega)]; exact hp, call_plain⟩
  · exact ⟨false, 184, fun w => by rw [h]; exact rule4 w, by rw [h]; rfl, by rw [if_neg (by omega), if_neg (by omega)]; exact hp, call_plain⟩
  · exact ⟨true, 186, fun w => by rw [h]; exact rule5 w, by rw [h]; rfl, by rw [if_neg (by omega), if_pos h]; exact hf, call_forward⟩
theorem nums_0 {x : Ins} (h : ¬ numE x.fn x.fd = 0) : numsE x = numE x.fn x.fd := by unfold numsE; rw [if_pos h]
theorem nums_1 {x : Ins} (h0 : numE x.fn x.fd = 0) (h : ¬ numE x.cn x.cd = 0) : numsE x = numE x.cn x.cd := by unfold numsE; rw [if_neg (fun g => g h0), if_pos h]
theorem nums_2 {x : Ins} (h0 : numE x.fn x.fd = 0) (h : numE x.cn x.cd = 0) : numsE x = numE x.sn x.sd := by unfold numsE; rw [if_neg (fun g => g h0), if_neg (fun g => g h)]
set_option maxHeartbeats 4000000 in
set_option maxRecDepth 100000 in
theorem iCheck (x : Ins) (hx : x.Small) : Ret 66 #[(Value.agg #[Value.string ⟨List.toArray x.id⟩, Value.int .i64 x.kind, Value.string ⟨List.toArray x.cur⟩, Value.int .i64 x.places, Value.int .i64 x.issued, Value.int .i64 x.matures, Value.string ⟨List.toArray x.fn⟩, Value.string ⟨List.toArray x.fd⟩, Value.string ⟨List.toArray x.cn⟩, Value.string ⟨List.toArray x.cd⟩, Value.int .i64 x.months, Value.int .i64 x.count, Value.string ⟨List.toArray x.other⟩, Value.string ⟨List.toArray x.sn⟩, Value.string ⟨List.toArray x.sd⟩])] (.int .i64 (chkE x)) := fun w hG => by
  have C1 := Lib.hid (iName (l := x.id) (Nat.le_trans hx.id (by decide)))
  have C2 := Lib.hid (iCode (l := x.cur) (Nat.le_trans hx.cur (by decide)))
  have C3 := Lib.hid (iValid x.issued)
  have x1 := IBox.new w x 34
  have hb := below_alloc w (.cells #[Value.string ⟨List.toArray x.id⟩, Value.int .i64 x.kind, Value.string ⟨List.toArray x.cur⟩, Value.int .i64 x.places, Value.int .i64 x.issued, Value.int .i64 x.matures, Value.string ⟨List.toArray x.fn⟩, Value.string ⟨List.toArray x.fd⟩, Value.string ⟨List.toArray x.cn⟩, Value.string ⟨List.toArray x.cd⟩, Value.int .i64 x.months, Value.int .i64 x.count, Value.string ⟨List.toArray x.other⟩, Value.string ⟨List.toArray x.sn⟩, Value.string ⟨List.toArray x.sd⟩] 34)
  by_cases h1 : nameB x.id = true
  · have bh1 := h1
    by_cases h2 : x.kind < 1
    · have bh2 : decide (x.kind < 1) = true := decide_eq_true h2
      have HV : Hid (chkE x = 7) := by show _ = _; unfold chkE; rw [if_neg (fun h => h h1), if_pos (.inl h2)]
      clear h1
      go_enter Tryz.func66, Tryz.ntmps66
      have qx1_0 := x1.c0
      have qx1_1 := x1.c1
      have qx1_2 := x1.c2
      have qx1_3 := x1.c3
      have qx1_4 := x1.c4
      have qx1_5 := x1.c5
      have qx1_6 := x1.c6
      have qx1_7 := x1.c7
      have qx1_8 := x1.c8
      have qx1_9 := x1.c9
      have qx1_10 := x1.c10
      have qx1_11 := x1.c11
      have qx1_12 := x1.c12
      have qx1_13 := x1.c13
      have qx1_14 := x1.c14
      go_wp2_with fail
      ((with_reducible refine (C1.out.of hG hb).mono ?_); rintro e w2 ⟨rfl, hb2⟩)
      clear qx1_0 qx1_1 qx1_2 qx1_3 qx1_4 qx1_5 qx1_6 qx1_7 qx1_8 qx1_9 qx1_10 qx1_11 qx1_12 qx1_13 qx1_14
      replace x1 := x1.below hb2
      replace hb := bto hb hb2
      clear hb2
      have qx1_0 := x1.c0
      have qx1_1 := x1.c1
      have qx1_2 := x1.c2
      have qx1_3 := x1.c3
      have qx1_4 := x1.c4
      have qx1_5 := x1.c5
      have qx1_6 := x1.c6
      have qx1_7 := x1.c7
      have qx1_8 := x1.c8
      have qx1_9 := x1.c9
      have qx1_10 := x1.c10
      have qx1_11 := x1.c11
      have qx1_12 := x1.c12
      have qx1_13 := x1.c13
      have qx1_14 := x1.c14
      go_wp2
      go_ret
      exact ⟨reti HV.out.symm, hb⟩
    · have bh2 : decide (x.kind < 1) = false := decide_eq_false h2
      by_cases h3 : 5 < x.kind
      · have bh3 : decide (5 < x.kind) = true := decide_eq_true h3
        have HV : Hid (chkE x = 7) := by show _ = _; unfold chkE; rw [if_neg (fun h => h h1), if_pos (.inr h3)]
        clear h1
        go_enter Tryz.func66, Tryz.ntmps66
        have qx1_0 := x1.c0
        have qx1_1 := x1.c1
        have qx1_2 := x1.c2
        have qx1_3 := x1.c3
        have qx1_4 := x1.c4
        have qx1_5 := x1.c5
        have qx1_6 := x1.c6
        have qx1_7 := x1.c7
        have qx1_8 := x1.c8
        have qx1_9 := x1.c9
        have qx1_10 := x1.c10
        have qx1_11 := x1.c11
        have qx1_12 := x1.c12
        have qx1_13 := x1.c13
        have qx1_14 := x1.c14
        go_wp2_with fail
        ((with_reducible refine (C1.out.of hG hb).mono ?_); rintro e w2 ⟨rfl, hb2⟩)
        clear qx1_0 qx1_1 qx1_2 qx1_3 qx1_4 qx1_5 qx1_6 qx1_7 qx1_8 qx1_9 qx1_10 qx1_11 qx1_12 qx1_13 qx1_14
        replace x1 := x1.below hb2
        replace hb := bto hb hb2
        clear hb2
        have qx1_0 := x1.c0
        have qx1_1 := x1.c1
        have qx1_2 := x1.c2
        have qx1_3 := x1.c3
        have qx1_4 := x1.c4
        have qx1_5 := x1.c5
        have qx1_6 := x1.c6
        have qx1_7 := x1.c7
        have qx1_8 := x1.c8
        have qx1_9 := x1.c9
        have qx1_10 := x1.c10
        have qx1_11 := x1.c11
        have qx1_12 := x1.c12
        have qx1_13 := x1.c13
        have qx1_14 := x1.c14
        go_wp2
        go_ret
        exact ⟨reti HV.out.symm, hb⟩
      · have bh3 : decide (5 < x.kind) = false := decide_eq_false h3
        by_cases h4 : codeB x.cur = true
        · have bh4 := h4
          by_cases h5 : x.places < 0
          · have bh5 : decide (x.places < 0) = true := decide_eq_true h5
            have HV : Hid (chkE x = 2) := by show _ = _; unfold chkE; rw [if_neg (fun h => h h1), if_neg (fun h => h.elim h2 h3), if_neg (fun h => h h4), if_pos (.inl h5)]
            clear h1 h4
            go_enter Tryz.func66, Tryz.ntmps66
            have qx1_0 := x1.c0
            have qx1_1 := x1.c1
            have qx1_2 := x1.c2
            have qx1_3 := x1.c3
            have qx1_4 := x1.c4
            have qx1_5 := x1.c5
            have qx1_6 := x1.c6
            have qx1_7 := x1.c7
            have qx1_8 := x1.c8
            have qx1_9 := x1.c9
            have qx1_10 := x1.c10
            have qx1_11 := x1.c11
            have qx1_12 := x1.c12
            have qx1_13 := x1.c13
            have qx1_14 := x1.c14
            go_wp2_with fail
            ((with_reducible refine (C1.out.of hG hb).mono ?_); rintro e w2 ⟨rfl, hb2⟩)
            clear qx1_0 qx1_1 qx1_2 qx1_3 qx1_4 qx1_5 qx1_6 qx1_7 qx1_8 qx1_9 qx1_10 qx1_11 qx1_12 qx1_13 qx1_14
            replace x1 := x1.below hb2
            replace hb := bto hb hb2
            clear hb2
            have qx1_0 := x1.c0
            have qx1_1 := x1.c1
            have qx1_2 := x1.c2
            have qx1_3 := x1.c3
            have qx1_4 := x1.c4
            have qx1_5 := x1.c5
            have qx1_6 := x1.c6
            have qx1_7 := x1.c7
            have qx1_8 := x1.c8
            have qx1_9 := x1.c9
            have qx1_10 := x1.c10
            have qx1_11 := x1.c11
            have qx1_12 := x1.c12
            have qx1_13 := x1.c13
            have qx1_14 := x1.c14
            go_wp2_with fail
            ((with_reducible refine (C2.out.of hG hb).mono ?_); rintro e w3 ⟨rfl, hb3⟩)
            clear qx1_0 qx1_1 qx1_2 qx1_3 qx1_4 qx1_5 qx1_6 qx1_7 qx1_8 qx1_9 qx1_10 qx1_11 qx1_12 qx1_13 qx1_14
            replace x1 := x1.below hb3
            replace hb := bto hb hb3
            clear hb3
            have qx1_0 := x1.c0
            have qx1_1 := x1.c1
            have qx1_2 := x1.c2
            have qx1_3 := x1.c3
            have qx1_4 := x1.c4
            have qx1_5 := x1.c5
            have qx1_6 := x1.c6
            have qx1_7 := x1.c7
            have qx1_8 := x1.c8
            have qx1_9 := x1.c9
            have qx1_10 := x1.c10
            have qx1_11 := x1.c11
            have qx1_12 := x1.c12
            have qx1_13 := x1.c13
            have qx1_14 := x1.c14
            go_wp2
            go_ret
            exact ⟨reti HV.out.symm, hb⟩
          · have bh5 : decide (x.places < 0) = false := decide_eq_false h5
            by_cases h6 : 12 < x.places
            · have bh6 : decide (12 < x.places) = true := decide_eq_true h6
              have HV : Hid (chkE x = 2) := by show _ = _; unfold chkE; rw [if_neg (fun h => h h1), if_neg (fun h => h.elim h2 h3), if_neg (fun h => h h4), if_pos (.inr h6)]
              clear h1 h4
              go_enter Tryz.func66, Tryz.ntmps66
              have qx1_0 := x1.c0
              have qx1_1 := x1.c1
              have qx1_2 := x1.c2
              have qx1_3 := x1.c3
              have qx1_4 := x1.c4
              have qx1_5 := x1.c5
              have qx1_6 := x1.c6
              have qx1_7 := x1.c7
              have qx1_8 := x1.c8
              have qx1_9 := x1.c9
              have qx1_10 := x1.c10
              have qx1_11 := x1.c11
              have qx1_12 := x1.c12
              have qx1_13 := x1.c13
              have qx1_14 := x1.c14
              go_wp2_with fail
              ((with_reducible refine (C1.out.of hG hb).mono ?_); rintro e w2 ⟨rfl, hb2⟩)
              clear qx1_0 qx1_1 qx1_2 qx1_3 qx1_4 qx1_5 qx1_6 qx1_7 qx1_8 qx1_9 qx1_10 qx1_11 qx1_12 qx1_13 qx1_14
              replace x1 := x1.below hb2
              replace hb := bto hb hb2
              clear hb2
              have qx1_0 := x1.c0
              have qx1_1 := x1.c1
              have qx1_2 := x1.c2
              have qx1_3 := x1.c3
              have qx1_4 := x1.c4
              have qx1_5 := x1.c5
              have qx1_6 := x1.c6
              have qx1_7 := x1.c7
              have qx1_8 := x1.c8
              have qx1_9 := x1.c9
              have qx1_10 := x1.c10
              have qx1_11 := x1.c11
              have qx1_12 := x1.c12
              have qx1_13 := x1.c13
              have qx1_14 := x1.c14
              go_wp2_with fail
              ((with_reducible refine (C2.out.of hG hb).mono ?_); rintro e w3 ⟨rfl, hb3⟩)
              clear qx1_0 qx1_1 qx1_2 qx1_3 qx1_4 qx1_5 qx1_6 qx1_7 qx1_8 qx1_9 qx1_10 qx1_11 qx1_12 qx1_13 qx1_14
              replace x1 := x1.below hb3
              replace hb := bto hb hb3
              clear hb3
              have qx1_0 := x1.c0
              have qx1_1 := x1.c1
              have qx1_2 := x1.c2
              have qx1_3 := x1.c3
              have qx1_4 := x1.c4
              have qx1_5 := x1.c5
              have qx1_6 := x1.c6
              have qx1_7 := x1.c7
              have qx1_8 := x1.c8
              have qx1_9 := x1.c9
              have qx1_10 := x1.c10
              have qx1_11 := x1.c11
              have qx1_12 := x1.c12
              have qx1_13 := x1.c13
              have qx1_14 := x1.c14
              go_wp2
              go_ret
              exact ⟨reti HV.out.symm, hb⟩
            · have bh6 : decide (12 < x.places) = false := decide_eq_false h6
              by_cases h7 : dayB x.issued = true
              · have bh7 := h7
                have HV : Hid (chkE x = tailE x) := by show _ = _; unfold chkE; rw [if_neg (fun h => h h1), if_neg (fun h => h.elim h2 h3), if_neg (fun h => h h4), if_neg (fun h => h.elim h5 h6), if_neg (fun h => h h7)]
                obtain ⟨ends, f, hidx, hends, cown, hcall⟩ := own_rule x hx h2 h3
                have HE := Lib.hid hends
                have C4 := Lib.hid (iValid x.matures)
                have CO := Lib.hid cown
                have CR := Lib.hid iRules
                have N0 := Lib.hid (iNumber (l := x.fn) (l' := x.fd) (Nat.le_trans hx.fn (by decide)) (Nat.le_trans hx.fd (by decide)))
                have N1 := Lib.hid (iNumber (l := x.cn) (l' := x.cd) (Nat.le_trans hx.cn (by decide)) (Nat.le_trans hx.cd (by decide)))
                have N2 := Lib.hid (iNumber (l := x.sn) (l' := x.sd) (Nat.le_trans hx.sn (by decide)) (Nat.le_trans hx.sd (by decide)))
                clear h1 h4 h7 hends cown
                go_enter Tryz.func66, Tryz.ntmps66
                have qx1_0 := x1.c0
                have qx1_1 := x1.c1
                have qx1_2 := x1.c2
                have qx1_3 := x1.c3
                have qx1_4 := x1.c4
                have qx1_5 := x1.c5
                have qx1_6 := x1.c6
                have qx1_7 := x1.c7
                have qx1_8 := x1.c8
                have qx1_9 := x1.c9
                have qx1_10 := x1.c10
                have qx1_11 := x1.c11
                have qx1_12 := x1.c12
                have qx1_13 := x1.c13
                have qx1_14 := x1.c14
                go_wp2_with fail
                ((with_reducible refine (C1.out.of hG hb).mono ?_); rintro e w2 ⟨rfl, hb2⟩)
                clear qx1_0 qx1_1 qx1_2 qx1_3 qx1_4 qx1_5 qx1_6 qx1_7 qx1_8 qx1_9 qx1_10 qx1_11 qx1_12 qx1_13 qx1_14
                replace x1 := x1.below hb2
                replace hb := bto hb hb2
                clear hb2
                have qx1_0 := x1.c0
                have qx1_1 := x1.c1
                have qx1_2 := x1.c2
                have qx1_3 := x1.c3
                have qx1_4 := x1.c4
                have qx1_5 := x1.c5
                have qx1_6 := x1.c6
                have qx1_7 := x1.c7
                have qx1_8 := x1.c8
                have qx1_9 := x1.c9
                have qx1_10 := x1.c10
                have qx1_11 := x1.c11
                have qx1_12 := x1.c12
                have qx1_13 := x1.c13
                have qx1_14 := x1.c14
                go_wp2_with fail
                ((with_reducible refine (C2.out.of hG hb).mono ?_); rintro e w3 ⟨rfl, hb3⟩)
                clear qx1_0 qx1_1 qx1_2 qx1_3 qx1_4 qx1_5 qx1_6 qx1_7 qx1_8 qx1_9 qx1_10 qx1_11 qx1_12 qx1_13 qx1_14
                replace x1 := x1.below hb3
                replace hb := bto hb hb3
                clear hb3
                have qx1_0 := x1.c0
                have qx1_1 := x1.c1
                have qx1_2 := x1.c2
                have qx1_3 := x1.c3
                have qx1_4 := x1.c4
                have qx1_5 := x1.c5
                have qx1_6 := x1.c6
                have qx1_7 := x1.c7
                have qx1_8 := x1.c8
                have qx1_9 := x1.c9
                have qx1_10 := x1.c10
                have qx1_11 := x1.c11
                have qx1_12 := x1.c12
                have qx1_13 := x1.c13
                have qx1_14 := x1.c14
                go_wp2_with fail
                ((with_reducible refine (C3.out.of hG hb).mono ?_); rintro e w4 ⟨rfl, hb4⟩)
                clear qx1_0 qx1_1 qx1_2 qx1_3 qx1_4 qx1_5 qx1_6 qx1_7 qx1_8 qx1_9 qx1_10 qx1_11 qx1_12 qx1_13 qx1_14
                replace x1 := x1.below hb4
                replace hb := bto hb hb4
                clear hb4
                go_wp2_with fail
                refine wp_region_kept (by kernel_rfl) (by kernel_rfl) ?_
                refine kept_call _ _ _ (fun _ => rfl) (fun ρ w hw => by go_simp; first | done | with_reducible rfl) (fun w hw => CR.out.of hG (bto hb hw)) ?_
                simp only [Act.put, List.setIfInBounds_toArray, List.set_cons_zero, List.set_cons_succ, Nat.reduceAdd]
                refine kept_val _ (fun _ => rfl) (fun ρ w hw => by go_simp; first | done | with_reducible rfl) ?_
                simp only [Act.put, List.setIfInBounds_toArray, List.set_cons_zero, List.set_cons_succ, Nat.reduceAdd]
                refine kept_val _ (fun _ => rfl) (fun ρ w hw => by have q1 := (x1.below hw).c1; go_simp; first | done | with_reducible rfl) ?_
                simp only [Act.put, List.setIfInBounds_toArray, List.set_cons_zero, List.set_cons_succ, Nat.reduceAdd]
                refine kept_val _ (fun _ => rfl) (fun ρ w hw => by go_simp; first | done | with_reducible rfl) ?_
                simp only [Act.put, List.setIfInBounds_toArray, List.set_cons_zero, List.set_cons_succ, Nat.reduceAdd]
                refine kept_box (fun b => .pointer (some ⟨b, 0, none⟩)) _ rfl (fun _ => rfl) (fun ρ w hw => by go_simp; first | done | with_reducible rfl) ?_
                simp only [Act.put, List.setIfInBounds_toArray, List.set_cons_zero, List.set_cons_succ, Nat.reduceAdd]
                refine kept_put2 4 _ 3 _ _ _ _ _ rfl rfl rfl (by decide) (fun _ => rfl) (fun ρ w hw q0 q1 q2 q3 => by go_simp; first | done | with_reducible rfl) ?_
                simp only [Act.put, Nat.reduceAdd]
                refine kept_end (fun ρ w5 hF => ?_)
                replace x1 := x1.below hF.below
                replace hb := bto hb hF.below
                have x3 := FBox.ofB (hF.box 4 _ _ rfl).2
                generalize ρ 4 = b3 at *
                clear hF
                clear hidx CR
                go_upto_region 12 with fail
                go_cut [68] from 44 to 68 (fun s68 wx => s68 = .bool (matB x) ∧ Below w5.heap.size w5 wx)
                case first =>
                  by_cases m0 : x.matures = 0
                  · have e1 : (x.matures == 0) = true := by rw [beq_iff_eq]; exact m0
                    have e2 := bneq e1
                    have HM : Hid (matB x = ends) := by show _ = _; rw [mat_0 m0, HE.out]
                    clear m0
                    have qx1_0 := x1.c0
                    have qx1_1 := x1.c1
                    have qx1_2 := x1.c2
                    have qx1_3 := x1.c3
                    have qx1_4 := x1.c4
                    have qx1_5 := x1.c5
                    have qx1_6 := x1.c6
                    have qx1_7 := x1.c7
                    have qx1_8 := x1.c8
                    have qx1_9 := x1.c9
                    have qx1_10 := x1.c10
                    have qx1_11 := x1.c11
                    have qx1_12 := x1.c12
                    have qx1_13 := x1.c13
                    have qx1_14 := x1.c14
                    have qx3_0 := x3.c0
                    have qx3_1 := x3.c1
                    go_wp2
                    go_meet
                    case rel => exact ⟨by rw [HM.out], Below.refl _ _⟩
                  · have e1 : (x.matures == 0) = false := by rw [beq_eq_false_iff_ne]; exact m0
                    have e2 := bneq' e1
                    have hG2 := hG.below hb
                    have hb2 := Below.refl w5.heap.size w5
                    by_cases m1 : dayB x.matures = true
                    · by_cases m2 : x.matures ≤ x.issued
                      · have e3 : decide (x.matures ≤ x.issued) = true := decide_eq_true m2
                        have HM : Hid (matB x = true) := mat_2 m0 m2
                        clear m0
                        have qx1_0 := x1.c0
                        have qx1_1 := x1.c1
                        have qx1_2 := x1.c2
                        have qx1_3 := x1.c3
                        have qx1_4 := x1.c4
                        have qx1_5 := x1.c5
                        have qx1_6 := x1.c6
                        have qx1_7 := x1.c7
                        have qx1_8 := x1.c8
                        have qx1_9 := x1.c9
                        have qx1_10 := x1.c10
                        have qx1_11 := x1.c11
                        have qx1_12 := x1.c12
                        have qx1_13 := x1.c13
                        have qx1_14 := x1.c14
                        have qx3_0 := x3.c0
                        have qx3_1 := x3.c1
                        go_wp2_with fail
                        ((with_reducible refine (C4.out.of hG2 hb2).mono ?_); rintro e wv ⟨rfl, hbv⟩)
                        clear qx1_0 qx1_1 qx1_2 qx1_3 qx1_4 qx1_5 qx1_6 qx1_7 qx1_8 qx1_9 qx1_10 qx1_11 qx1_12 qx1_13 qx1_14 qx3_0 qx3_1
                        replace x1 := x1.below hbv
                        replace x3 := x3.below hbv
                        have qx1_0 := x1.c0
                        have qx1_1 := x1.c1
                        have qx1_2 := x1.c2
                        have qx1_3 := x1.c3
                        have qx1_4 := x1.c4
                        have qx1_5 := x1.c5
                        have qx1_6 := x1.c6
                        have qx1_7 := x1.c7
                        have qx1_8 := x1.c8
                        have qx1_9 := x1.c9
                        have qx1_10 := x1.c10
                        have qx1_11 := x1.c11
                        have qx1_12 := x1.c12
                        have qx1_13 := x1.c13
                        have qx1_14 := x1.c14
                        have qx3_0 := x3.c0
                        have qx3_1 := x3.c1
                        go_wp2
                        go_meet
                        case rel => exact ⟨by rw [HM.out], hbv⟩
                      · have e3 : decide (x.matures ≤ x.issued) = false := decide_eq_false m2
                        have HM : Hid (matB x = false) := mat_3 m0 m1 m2
                        clear m0
                        have qx1_0 := x1.c0
                        have qx1_1 := x1.c1
                        have qx1_2 := x1.c2
                        have qx1_3 := x1.c3
                        have qx1_4 := x1.c4
                        have qx1_5 := x1.c5
                        have qx1_6 := x1.c6
                        have qx1_7 := x1.c7
                        have qx1_8 := x1.c8
                        have qx1_9 := x1.c9
                        have qx1_10 := x1.c10
                        have qx1_11 := x1.c11
                        have qx1_12 := x1.c12
                        have qx1_13 := x1.c13
                        have qx1_14 := x1.c14
                        have qx3_0 := x3.c0
                        have qx3_1 := x3.c1
                        go_wp2_with fail
                        ((with_reducible refine (C4.out.of hG2 hb2).mono ?_); rintro e wv ⟨rfl, hbv⟩)
                        clear qx1_0 qx1_1 qx1_2 qx1_3 qx1_4 qx1_5 qx1_6 qx1_7 qx1_8 qx1_9 qx1_10 qx1_11 qx1_12 qx1_13 qx1_14 qx3_0 qx3_1
                        replace x1 := x1.below hbv
                        replace x3 := x3.below hbv
                        have qx1_0 := x1.c0
                        have qx1_1 := x1.c1
                        have qx1_2 := x1.c2
                        have qx1_3 := x1.c3
                        have qx1_4 := x1.c4
                        have qx1_5 := x1.c5
                        have qx1_6 := x1.c6
                        have qx1_7 := x1.c7
                        have qx1_8 := x1.c8
                        have qx1_9 := x1.c9
                        have qx1_10 := x1.c10
                        have qx1_11 := x1.c11
                        have qx1_12 := x1.c12
                        have qx1_13 := x1.c13
                        have qx1_14 := x1.c14
                        have qx3_0 := x3.c0
                        have qx3_1 := x3.c1
                        go_wp2
                        go_meet
                        case rel => exact ⟨by rw [HM.out], hbv⟩
                    · have m1 := not_true_b m1
                      have HM : Hid (matB x = true) := mat_1 m0 m1
                      clear m0
                      have qx1_0 := x1.c0
                      have qx1_1 := x1.c1
                      have qx1_2 := x1.c2
                      have qx1_3 := x1.c3
                      have qx1_4 := x1.c4
                      have qx1_5 := x1.c5
                      have qx1_6 := x1.c6
                      have qx1_7 := x1.c7
                      have qx1_8 := x1.c8
                      have qx1_9 := x1.c9
                      have qx1_10 := x1.c10
                      have qx1_11 := x1.c11
                      have qx1_12 := x1.c12
                      have qx1_13 := x1.c13
                      have qx1_14 := x1.c14
                      have qx3_0 := x3.c0
                      have qx3_1 := x3.c1
                      go_wp2_with fail
                      ((with_reducible refine (C4.out.of hG2 hb2).mono ?_); rintro e wv ⟨rfl, hbv⟩)
                      clear qx1_0 qx1_1 qx1_2 qx1_3 qx1_4 qx1_5 qx1_6 qx1_7 qx1_8 qx1_9 qx1_10 qx1_11 qx1_12 qx1_13 qx1_14 qx3_0 qx3_1
                      replace x1 := x1.below hbv
                      replace x3 := x3.below hbv
                      have qx1_0 := x1.c0
                      have qx1_1 := x1.c1
                      have qx1_2 := x1.c2
                      have qx1_3 := x1.c3
                      have qx1_4 := x1.c4
                      have qx1_5 := x1.c5
                      have qx1_6 := x1.c6
                      have qx1_7 := x1.c7
                      have qx1_8 := x1.c8
                      have qx1_9 := x1.c9
                      have qx1_10 := x1.c10
                      have qx1_11 := x1.c11
                      have qx1_12 := x1.c12
                      have qx1_13 := x1.c13
                      have qx1_14 := x1.c14
                      have qx3_0 := x3.c0
                      have qx3_1 := x3.c1
                      go_wp2
                      go_meet
                      case rel => exact ⟨by rw [HM.out], hbv⟩
                case rest =>
                  obtain ⟨rfl, hbc⟩ := hcut
                  replace x1 := x1.below hbc
                  replace x3 := x3.below hbc
                  replace hb := bto hb hbc
                  clear hbc C4 HE
                  obtain ⟨mb, hmb⟩ : ∃ b, matB x = b := ⟨_, rfl⟩
                  rw [hmb]
                  have HB := Lib.hid hmb
                  clear hmb
                  rcases Bool.eq_false_or_eq_true mb with hm | hm <;> subst hm
                  · have HT : Hid (tailE x = 13) := by show _ = _; unfold tailE; rw [if_pos HB.out]
                    clear HB N0 N1 N2 CO
                    go_wp2
                    go_ret
                    exact ⟨reti (HV.out.trans HT.out).symm, hb⟩
                  · have HT : Hid (tailE x = if numsE x ≠ 0 then numsE x else ownE x) := by show _ = _; unfold tailE; rw [if_neg (by rw [HB.out]; decide)]
                    clear HB
                    have qx1_0 := x1.c0
                    have qx1_1 := x1.c1
                    have qx1_2 := x1.c2
                    have qx1_3 := x1.c3
                    have qx1_4 := x1.c4
                    have qx1_5 := x1.c5
                    have qx1_6 := x1.c6
                    have qx1_7 := x1.c7
                    have qx1_8 := x1.c8
                    have qx1_9 := x1.c9
                    have qx1_10 := x1.c10
                    have qx1_11 := x1.c11
                    have qx1_12 := x1.c12
                    have qx1_13 := x1.c13
                    have qx1_14 := x1.c14
                    go_wp2_with fail
                    clear qx1_0 qx1_1 qx1_2 qx1_3 qx1_4 qx1_5 qx1_6 qx1_7 qx1_8 qx1_9 qx1_10 qx1_11 qx1_12 qx1_13 qx1_14
                    have hbA := below_alloc wc (.cells #[.string ⟨x.fn.toArray⟩, .string ⟨x.fd.toArray⟩, .string ⟨x.cn.toArray⟩, .string ⟨x.cd.toArray⟩, .string ⟨x.sn.toArray⟩, .string ⟨x.sd.toArray⟩] 32)
                    have xN := Blk.new wc #[.string ⟨x.fn.toArray⟩, .string ⟨x.fd.toArray⟩, .string ⟨x.cn.toArray⟩, .string ⟨x.cd.toArray⟩, .string ⟨x.sn.toArray⟩, .string ⟨x.sd.toArray⟩] 32
                    replace x1 := x1.below hbA
                    replace x3 := x3.below hbA
                    replace hb := bto hb hbA
                    clear hbA
                    go_loopw [77] (fun iv wr => ∃ k : Nat, k ≤ 3 ∧ iv = .int .i64 (k : Int) ∧ Hid ((1 ≤ k → numE x.fn x.fd = 0) ∧ (2 ≤ k → numE x.cn x.cd = 0) ∧ (3 ≤ k → numE x.sn x.sd = 0)) ∧ IBox wr w.heap.size x ∧ FBox wr b3 (.bool ends) (.func (Fn.func f) #[] #[]) ∧ Blk wr wc.heap.size #[.string ⟨x.fn.toArray⟩, .string ⟨x.fd.toArray⟩, .string ⟨x.cn.toArray⟩, .string ⟨x.cd.toArray⟩, .string ⟨x.sn.toArray⟩, .string ⟨x.sd.toArray⟩] ∧ Below w.heap.size w wr) (fun iv _ => 3 - (intOf iv).toNat)
                    case atStart => exact ⟨0, by omega, rfl, ⟨fun h => absurd h (by decide), fun h => absurd h (by decide), fun h => absurd h (by decide)⟩, x1, x3, xN, hb⟩
                    case round =>
                      obtain ⟨k, hk, rfl, HK, y1, y3, yN, hbr⟩ := hrel
                      have hk4 : k = 0 ∨ k = 1 ∨ k = 2 ∨ k = 3 := by omega
                      rcases hk4 with rfl | rfl | rfl | rfl
                      · have q0 : wr.cell? ⟨wc.heap.size, 0, none⟩ = some (.string ⟨x.fn.toArray⟩) := yN.c 0
                        have q1 : wr.cell? ⟨wc.heap.size, 1, none⟩ = some (.string ⟨x.fd.toArray⟩) := yN.c 1
                        have hbA := below_alloc wr (.cells #[.string ⟨x.fn.toArray⟩, .string ⟨x.fd.toArray⟩] 32)
                        go_wp2_with fail
                        ((with_reducible refine (N0.out.of hG (bto hbr hbA)).mono ?_); rintro e wn ⟨rfl, hbn⟩)
                        have hbn := bto hbA hbn
                        replace y1 := y1.below hbn
                        replace y3 := y3.below hbn
                        replace yN := yN.below hbn
                        replace hbr := bto hbr hbn
                        clear hbn hbA q0 q1
                        by_cases hz : numE x.fn x.fd = 0
                        · have HK2 : Hid ((1 ≤ 1 → numE x.fn x.fd = 0) ∧ (2 ≤ 1 → numE x.cn x.cd = 0) ∧ (3 ≤ 1 → numE x.sn x.sd = 0)) := ⟨fun _ => hz, fun h => absurd h (by decide), fun h => absurd h (by decide)⟩
                          have e1 : (numE x.fn x.fd == 0) = true := by rw [beq_iff_eq]; exact hz
                          have e2 := bneq e1
                          clear hz HK
                          go_wp2
                          go_roundw
                          case rel => exact ⟨1, by omega, by first | rfl | go_num, HK2, y1, y3, yN, hbr⟩
                          case measure => simp [intOf]
                        · have HQ : Hid (tailE x = numE x.fn x.fd) := by show _ = _; have hq := nums_0 hz; rw [HT.out, hq, if_pos hz]
                          have e1 : (numE x.fn x.fd == 0) = false := by rw [beq_eq_false_iff_ne]; exact hz
                          have e2 := bneq' e1
                          clear hz HK
                          go_wp2
                          go_ret
                          exact ⟨reti (HV.out.trans HQ.out).symm, hbr⟩
                      · have q0 : wr.cell? ⟨wc.heap.size, 2, none⟩ = some (.string ⟨x.cn.toArray⟩) := yN.c 2
                        have q1 : wr.cell? ⟨wc.heap.size, 3, none⟩ = some (.string ⟨x.cd.toArray⟩) := yN.c 3
                        have hbA := below_alloc wr (.cells #[.string ⟨x.cn.toArray⟩, .string ⟨x.cd.toArray⟩] 32)
                        go_wp2_with fail
                        ((with_reducible refine (N1.out.of hG (bto hbr hbA)).mono ?_); rintro e wn ⟨rfl, hbn⟩)
                        have hbn := bto hbA hbn
                        replace y1 := y1.below hbn
                        replace y3 := y3.below hbn
                        replace yN := yN.below hbn
                        replace hbr := bto hbr hbn
                        clear hbn hbA q0 q1
                        by_cases hz : numE x.cn x.cd = 0
                        · have HK2 : Hid ((1 ≤ 2 → numE x.fn x.fd = 0) ∧ (2 ≤ 2 → numE x.cn x.cd = 0) ∧ (3 ≤ 2 → numE x.sn x.sd = 0)) := ⟨fun _ => HK.out.1 (by decide), fun _ => hz, fun h => absurd h (by decide)⟩
                          have e1 : (numE x.cn x.cd == 0) = true := by rw [beq_iff_eq]; exact hz
                          have e2 := bneq e1
                          clear hz HK
                          go_wp2
                          go_roundw
                          case rel => exact ⟨2, by omega, by first | rfl | go_num, HK2, y1, y3, yN, hbr⟩
                          case measure => simp [intOf]
                        · have HQ : Hid (tailE x = numE x.cn x.cd) := by show _ = _; have hq := nums_1 (HK.out.1 (by decide)) hz; rw [HT.out, hq, if_pos hz]
                          have e1 : (numE x.cn x.cd == 0) = false := by rw [beq_eq_false_iff_ne]; exact hz
                          have e2 := bneq' e1
                          clear hz HK
                          go_wp2
                          go_ret
                          exact ⟨reti (HV.out.trans HQ.out).symm, hbr⟩
                      · have q0 : wr.cell? ⟨wc.heap.size, 4, none⟩ = some (.string ⟨x.sn.toArray⟩) := yN.c 4
                        have q1 : wr.cell? ⟨wc.heap.size, 5, none⟩ = some (.string ⟨x.sd.toArray⟩) := yN.c 5
                        have hbA := below_alloc wr (.cells #[.string ⟨x.sn.toArray⟩, .string ⟨x.sd.toArray⟩] 32)
                        go_wp2_with fail
                        ((with_reducible refine (N2.out.of hG (bto hbr hbA)).mono ?_); rintro e wn ⟨rfl, hbn⟩)
                        have hbn := bto hbA hbn
                        replace y1 := y1.below hbn
                        replace y3 := y3.below hbn
                        replace yN := yN.below hbn
                        replace hbr := bto hbr hbn
                        clear hbn hbA q0 q1
                        by_cases hz : numE x.sn x.sd = 0
                        · have HK2 : Hid ((1 ≤ 3 → numE x.fn x.fd = 0) ∧ (2 ≤ 3 → numE x.cn x.cd = 0) ∧ (3 ≤ 3 → numE x.sn x.sd = 0)) := ⟨fun _ => HK.out.1 (by decide), fun _ => HK.out.2.1 (by decide), fun _ => hz⟩
                          have e1 : (numE x.sn x.sd == 0) = true := by rw [beq_iff_eq]; exact hz
                          have e2 := bneq e1
                          clear hz HK
                          go_wp2
                          go_roundw
                          case rel => exact ⟨3, by omega, by first | rfl | go_num, HK2, y1, y3, yN, hbr⟩
                          case measure => simp [intOf]
                        · have HQ : Hid (tailE x = numE x.sn x.sd) := by show _ = _; have hq := nums_2 (HK.out.1 (by decide)) (HK.out.2.1 (by decide)); rw [HT.out, hq, if_pos hz]
                          have e1 : (numE x.sn x.sd == 0) = false := by rw [beq_eq_false_iff_ne]; exact hz
                          have e2 := bneq' e1
                          clear hz HK
                          go_wp2
                          go_ret
                          exact ⟨reti (HV.out.trans HQ.out).symm, hbr⟩
                      · have HQ : Hid (tailE x = ownE x) := by show _ = _; have hq := nums_2 (HK.out.1 (by decide)) (HK.out.2.1 (by decide)); rw [HT.out, hq, if_neg (fun g => g (HK.out.2.2 (by decide)))]
                        clear HK HT N0 N1 N2
                        have p0 := y1.c0
                        have p1 := y1.c1
                        have p2 := y1.c2
                        have p3 := y1.c3
                        have p4 := y1.c4
                        have p5 := y1.c5
                        have p6 := y1.c6
                        have p7 := y1.c7
                        have p8 := y1.c8
                        have p9 := y1.c9
                        have p10 := y1.c10
                        have p11 := y1.c11
                        have p12 := y1.c12
                        have p13 := y1.c13
                        have p14 := y1.c14
                        have p20 := y3.c0
                        have p21 := y3.c1
                        go_wp2_with fail
                        ((with_reducible refine (CO.out.of hG hbr).mono ?_); rintro e wn ⟨rfl, hbn⟩)
                        replace hbr := bto hbr hbn
                        go_wp2
                        go_ret
                        exact ⟨reti (HV.out.trans HQ.out).symm, hbr⟩
              · have bh7 : dayB x.issued = false := not_true_b h7
                have HV : Hid (chkE x = 13) := by show _ = _; unfold chkE; rw [if_neg (fun h => h h1), if_neg (fun h => h.elim h2 h3), if_neg (fun h => h h4), if_neg (fun h => h.elim h5 h6), if_pos h7]
                clear h1 h4 h7
                go_enter Tryz.func66, Tryz.ntmps66
                have qx1_0 := x1.c0
                have qx1_1 := x1.c1
                have qx1_2 := x1.c2
                have qx1_3 := x1.c3
                have qx1_4 := x1.c4
                have qx1_5 := x1.c5
                have qx1_6 := x1.c6
                have qx1_7 := x1.c7
                have qx1_8 := x1.c8
                have qx1_9 := x1.c9
                have qx1_10 := x1.c10
                have qx1_11 := x1.c11
                have qx1_12 := x1.c12
                have qx1_13 := x1.c13
                have qx1_14 := x1.c14
                go_wp2_with fail
                ((with_reducible refine (C1.out.of hG hb).mono ?_); rintro e w2 ⟨rfl, hb2⟩)
                clear qx1_0 qx1_1 qx1_2 qx1_3 qx1_4 qx1_5 qx1_6 qx1_7 qx1_8 qx1_9 qx1_10 qx1_11 qx1_12 qx1_13 qx1_14
                replace x1 := x1.below hb2
                replace hb := bto hb hb2
                clear hb2
                have qx1_0 := x1.c0
                have qx1_1 := x1.c1
                have qx1_2 := x1.c2
                have qx1_3 := x1.c3
                have qx1_4 := x1.c4
                have qx1_5 := x1.c5
                have qx1_6 := x1.c6
                have qx1_7 := x1.c7
                have qx1_8 := x1.c8
                have qx1_9 := x1.c9
                have qx1_10 := x1.c10
                have qx1_11 := x1.c11
                have qx1_12 := x1.c12
                have qx1_13 := x1.c13
                have qx1_14 := x1.c14
                go_wp2_with fail
                ((with_reducible refine (C2.out.of hG hb).mono ?_); rintro e w3 ⟨rfl, hb3⟩)
                clear qx1_0 qx1_1 qx1_2 qx1_3 qx1_4 qx1_5 qx1_6 qx1_7 qx1_8 qx1_9 qx1_10 qx1_11 qx1_12 qx1_13 qx1_14
                replace x1 := x1.below hb3
                replace hb := bto hb hb3
                clear hb3
                have qx1_0 := x1.c0
                have qx1_1 := x1.c1
                have qx1_2 := x1.c2
                have qx1_3 := x1.c3
                have qx1_4 := x1.c4
                have qx1_5 := x1.c5
                have qx1_6 := x1.c6
                have qx1_7 := x1.c7
                have qx1_8 := x1.c8
                have qx1_9 := x1.c9
                have qx1_10 := x1.c10
                have qx1_11 := x1.c11
                have qx1_12 := x1.c12
                have qx1_13 := x1.c13
                have qx1_14 := x1.c14
                go_wp2_with fail
                ((with_reducible refine (C3.out.of hG hb).mono ?_); rintro e w4 ⟨rfl, hb4⟩)
                clear qx1_0 qx1_1 qx1_2 qx1_3 qx1_4 qx1_5 qx1_6 qx1_7 qx1_8 qx1_9 qx1_10 qx1_11 qx1_12 qx1_13 qx1_14
                replace x1 := x1.below hb4
                replace hb := bto hb hb4
                clear hb4
                have qx1_0 := x1.c0
                have qx1_1 := x1.c1
                have qx1_2 := x1.c2
                have qx1_3 := x1.c3
                have qx1_4 := x1.c4
                have qx1_5 := x1.c5
                have qx1_6 := x1.c6
                have qx1_7 := x1.c7
                have qx1_8 := x1.c8
                have qx1_9 := x1.c9
                have qx1_10 := x1.c10
                have qx1_11 := x1.c11
                have qx1_12 := x1.c12
                have qx1_13 := x1.c13
                have qx1_14 := x1.c14
                go_wp2
                go_ret
                exact ⟨reti HV.out.symm, hb⟩
        · have bh4 : codeB x.cur = false := not_true_b h4
          have HV : Hid (chkE x = 12) := by show _ = _; unfold chkE; rw [if_neg (fun h => h h1), if_neg (fun h => h.elim h2 h3), if_pos h4]
          clear h1 h4
          go_enter Tryz.func66, Tryz.ntmps66
          have qx1_0 := x1.c0
          have qx1_1 := x1.c1
          have qx1_2 := x1.c2
          have qx1_3 := x1.c3
          have qx1_4 := x1.c4
          have qx1_5 := x1.c5
          have qx1_6 := x1.c6
          have qx1_7 := x1.c7
          have qx1_8 := x1.c8
          have qx1_9 := x1.c9
          have qx1_10 := x1.c10
          have qx1_11 := x1.c11
          have qx1_12 := x1.c12
          have qx1_13 := x1.c13
          have qx1_14 := x1.c14
          go_wp2_with fail
          ((with_reducible refine (C1.out.of hG hb).mono ?_); rintro e w2 ⟨rfl, hb2⟩)
          clear qx1_0 qx1_1 qx1_2 qx1_3 qx1_4 qx1_5 qx1_6 qx1_7 qx1_8 qx1_9 qx1_10 qx1_11 qx1_12 qx1_13 qx1_14
          replace x1 := x1.below hb2
          replace hb := bto hb hb2
          clear hb2
          have qx1_0 := x1.c0
          have qx1_1 := x1.c1
          have qx1_2 := x1.c2
          have qx1_3 := x1.c3
          have qx1_4 := x1.c4
          have qx1_5 := x1.c5
          have qx1_6 := x1.c6
          have qx1_7 := x1.c7
          have qx1_8 := x1.c8
          have qx1_9 := x1.c9
          have qx1_10 := x1.c10
          have qx1_11 := x1.c11
          have qx1_12 := x1.c12
          have qx1_13 := x1.c13
          have qx1_14 := x1.c14
          go_wp2_with fail
          ((with_reducible refine (C2.out.of hG hb).mono ?_); rintro e w3 ⟨rfl, hb3⟩)
          clear qx1_0 qx1_1 qx1_2 qx1_3 qx1_4 qx1_5 qx1_6 qx1_7 qx1_8 qx1_9 qx1_10 qx1_11 qx1_12 qx1_13 qx1_14
          replace x1 := x1.below hb3
          replace hb := bto hb hb3
          clear hb3
          have qx1_0 := x1.c0
          have qx1_1 := x1.c1
          have qx1_2 := x1.c2
          have qx1_3 := x1.c3
          have qx1_4 := x1.c4
          have qx1_5 := x1.c5
          have qx1_6 := x1.c6
          have qx1_7 := x1.c7
          have qx1_8 := x1.c8
          have qx1_9 := x1.c9
          have qx1_10 := x1.c10
          have qx1_11 := x1.c11
          have qx1_12 := x1.c12
          have qx1_13 := x1.c13
          have qx1_14 := x1.c14
          go_wp2
          go_ret
          exact ⟨reti HV.out.symm, hb⟩
  · have bh1 : nameB x.id = false := not_true_b h1
    have HV : Hid (chkE x = 23) := by show _ = _; unfold chkE; rw [if_pos h1]
    clear h1
    go_enter Tryz.func66, Tryz.ntmps66
    have qx1_0 := x1.c0
    have qx1_1 := x1.c1
    have qx1_2 := x1.c2
    have qx1_3 := x1.c3
    have qx1_4 := x1.c4
    have qx1_5 := x1.c5
    have qx1_6 := x1.c6
    have qx1_7 := x1.c7
    have qx1_8 := x1.c8
    have qx1_9 := x1.c9
    have qx1_10 := x1.c10
    have qx1_11 := x1.c11
    have qx1_12 := x1.c12
    have qx1_13 := x1.c13
    have qx1_14 := x1.c14
    go_wp2_with fail
    ((with_reducible refine (C1.out.of hG hb).mono ?_); rintro e w2 ⟨rfl, hb2⟩)
    clear qx1_0 qx1_1 qx1_2 qx1_3 qx1_4 qx1_5 qx1_6 qx1_7 qx1_8 qx1_9 qx1_10 qx1_11 qx1_12 qx1_13 qx1_14
    replace x1 := x1.below hb2
    replace hb := bto hb hb2
    clear hb2
    have qx1_0 := x1.c0
    have qx1_1 := x1.c1
    have qx1_2 := x1.c2
    have qx1_3 := x1.c3
    have qx1_4 := x1.c4
    have qx1_5 := x1.c5
    have qx1_6 := x1.c6
    have qx1_7 := x1.c7
    have qx1_8 := x1.c8
    have qx1_9 := x1.c9
    have qx1_10 := x1.c10
    have qx1_11 := x1.c11
    have qx1_12 := x1.c12
    have qx1_13 := x1.c13
    have qx1_14 := x1.c14
    go_wp2
    go_ret
    exact ⟨reti HV.out.symm, hb⟩
end Go.Proofs.YtmjglcgdcclinaaGreatDoor
