/- The law MoneyReads. -/
import Derived.Test.YtdjjlbfleibhjaaGreatDoorM7
namespace Go.Proofs.YtdjjlbfleibhjaaGreatDoor
open Go.RowKit Num
set_option maxHeartbeats 8000000 in
set_option maxRecDepth 100000 in
theorem reads5_law (A : Option Addr) (ts : List Cur) (n c : Nat) (m : Mon) (s : List UInt8) (w : World) (hG : Glob w)
    (hn : ts.length = n) (hc : n ≤ c) (hm : n ≤ 9223372036854775807) (hI : CurAt w A ts) (hs : s.length ≤ 9223372036854775807) :
    Calls Tryz.prog 3 #[.slice A n c, .agg #[.string ⟨m.cur.toArray⟩, .string ⟨m.amt.toArray⟩], .string ⟨s.toArray⟩] w fun e w' => e = .returned (.bool true) ∧ Below w.heap.size w w' := by
  have HAw := Lib.hid wAwake5
  have HLg := Lib.hid (llongM m)
  have hb := below_alloc w (.cells #[.string ⟨m.cur.toArray⟩, .string ⟨m.amt.toArray⟩] 25)
  have x4 := FBox.new w (.string ⟨m.cur.toArray⟩) (.string ⟨m.amt.toArray⟩) 25
  have CG := Lib.hid (fun (W : World) (hb : Below w.heap.size w W) => rGreatT A ts n c W hn hc hm (hI.below hb))
  have HI := Lib.hid hI
  clear hn hm hI
  go_enter Tryz.func3, Tryz.ntmps3
  go_wp2_with fail
  refine (CG.out _ hb).mono ?_
  rintro e w2 ⟨g, rfl, hg, hb2⟩
  have HF := Lib.hid hg
  replace hb := bto hb hb2
  replace x4 := x4.below hb2
  have q0 := x4.c0
  have q1 := x4.c1
  clear hg hb2 CG
  cases g with
  | true =>
    clear HF x4 q0 q1
    go_wp2_with fail
    ((with_reducible refine (HAw.out.of hG hb).mono ?_); rintro e wz ⟨rfl, hbz⟩)
    replace hb := bto hb hbz
    clear hbz
    go_wp2
    go_ret
    exact ⟨rfl, hb⟩
  | false =>
    have hX := HF.out rfl
    have hT : TL w A ts n c := ⟨hX.len, hX.cap, hX.sm, hX.str, HI.out⟩
    have HT := Lib.hid hT
    clear hX hT HF HI
    go_wp2_with fail
    ((with_reducible refine (HLg.out.of hG hb).mono ?_); rintro e w3 ⟨rfl, hb3⟩)
    replace hb := bto hb hb3
    replace x4 := x4.below hb3
    have q0 := x4.c0
    have q1 := x4.c1
    clear hb3
    by_cases gL : longM m = true
    · rw [gL]
      clear x4 q0 q1 gL HT
      go_wp2_with fail
      ((with_reducible refine (HAw.out.of hG hb).mono ?_); rintro e wz ⟨rfl, hbz⟩)
      replace hb := bto hb hbz
      clear hbz
      go_wp2
      go_ret
      exact ⟨rfl, hb⟩
    rw [not_true_b gL]
    have hL := longM_no (not_true_b gL)
    by_cases g40 : 40 < s.length ∧ s.length ≤ 65536
    · have e1 : decide (40 < s.length) = true := decide_eq_true g40.1
      have e2 : decide ((40 : Int) < (s.length : Int)) = true := decide_eq_true (by omega)
      have e3 : decide (s.length ≤ 65536) = true := decide_eq_true g40.2
      have e4 : decide ((s.length : Int) ≤ 65536) = true := decide_eq_true (by omega)
      clear x4 q0 q1 gL HT hL g40
      go_wp2_with fail
      ((with_reducible refine (HAw.out.of hG hb).mono ?_); rintro e wz ⟨rfl, hbz⟩)
      replace hb := bto hb hbz
      clear hbz
      go_wp2
      go_ret
      exact ⟨rfl, hb⟩
    have P1 := Lib.hid (fun (W : World) (hb : Below w.heap.size w W) => mText A ts n c m W (hG.below hb) (HT.out.below hb) (by omega) (by omega))
    have P2 := Lib.hid (fun (W : World) (hb : Below w.heap.size w W) => jText A ts n c m W (hG.below hb) (HT.out.below hb) (by omega) (by omega))
    have P3 := fun (W : World) (hb : Below w.heap.size w W) => mParseW A ts n c s W (hG.below hb) (HT.out.below hb) (by omega) hs
    have P4 := fun (W : World) (hb : Below w.heap.size w W) => jParseW A ts n c s W (hG.below hb) (HT.out.below hb) (by omega) hs
    generalize (textV ts m).1 = u1 at *
    generalize (textV ts m).2 = z1 at *
    generalize mParse ts s = pr at *
    obtain ⟨⟨pc, pa⟩, pz⟩ := pr
    simp only [pmV] at P3 P4
    have P3 := Lib.hid P3
    have P4 := Lib.hid P4
    have hE := fun (w : World) => eqM1 ⟨pc, pa⟩ ⟨pc, pa⟩ w
    rw [show sameM ⟨pc, pa⟩ ⟨pc, pa⟩ = true by simp [sameM]] at hE
    have hEG := guardM
    clear gL hL HT hs
    by_cases g4 : 40 < s.length
    · have e1 : decide (40 < s.length) = true := decide_eq_true g4
      have e2 : decide ((40 : Int) < (s.length : Int)) = true := decide_eq_true (by omega)
      have e3 : decide (s.length ≤ 65536) = false := decide_eq_false (fun h => g40 ⟨g4, h⟩)
      have e4 : decide ((s.length : Int) ≤ 65536) = false := decide_eq_false (fun h => g40 ⟨g4, by omega⟩)
      clear g4 g40
      go_wp2_with fail
      ((with_reducible refine (P1.out _ hb).mono ?_); rintro e w4 ⟨rfl, hb4⟩)
      replace x4 := x4.below hb4
      replace hb := bto hb hb4
      clear hb4 P1
      have q0 := x4.c0
      have q1 := x4.c1
      go_wp2_with fail
      ((with_reducible refine (P2.out _ hb).mono ?_); rintro e w5 ⟨rfl, hb5⟩)
      replace x4 := x4.below hb5
      replace hb := bto hb hb5
      clear hb5 P2
      clear x4 q0 q1 e1 e2
      go_wp2_with fail
      ((with_reducible refine (P3.out _ hb).mono ?_); rintro e w6 ⟨rfl, hb6⟩)
      have hbA := below_alloc w6 (.cells #[.string ⟨pc.toArray⟩, .string ⟨pa.toArray⟩] 25)
      have x11 := FBox.new w6 (.string ⟨pc.toArray⟩) (.string ⟨pa.toArray⟩) 25
      replace hb6 := bto hb6 hbA
      clear hbA
      replace hb := bto hb hb6
      clear hb6 P3
      go_wp2_with fail
      ((with_reducible refine (P4.out _ hb).mono ?_); rintro e w7 ⟨rfl, hb7⟩)
      have hbA := below_alloc w7 (.cells #[.string ⟨pc.toArray⟩, .string ⟨pa.toArray⟩] 25)
      have x13 := FBox.new w7 (.string ⟨pc.toArray⟩) (.string ⟨pa.toArray⟩) 25
      replace hb7 := bto hb7 hbA
      clear hbA
      replace x11 := x11.below hb7
      replace hb := bto hb hb7
      clear hb7 P4
      have q0 := x11.c0
      have q1 := x11.c1
      have q2 := x13.c0
      have q3 := x13.c1
      go_wp2_with fail
      ((with_reducible refine (HAw.out.of hG hb).mono ?_); rintro e wz ⟨rfl, hbz⟩)
      replace hb := bto hb hbz
      clear hbz
      go_wp2
      go_ret
      exact ⟨rfl, hb⟩
    · have e1 : decide (40 < s.length) = false := decide_eq_false g4
      have e2 : decide ((40 : Int) < (s.length : Int)) = false := decide_eq_false (by omega)
      clear g4 g40
      go_wp2_with fail
      ((with_reducible refine (P1.out _ hb).mono ?_); rintro e w4 ⟨rfl, hb4⟩)
      replace x4 := x4.below hb4
      replace hb := bto hb hb4
      clear hb4 P1
      have q0 := x4.c0
      have q1 := x4.c1
      go_wp2_with fail
      ((with_reducible refine (P2.out _ hb).mono ?_); rintro e w5 ⟨rfl, hb5⟩)
      replace x4 := x4.below hb5
      replace hb := bto hb hb5
      clear hb5 P2
      clear x4 q0 q1 e1 e2
      go_wp2_with fail
      ((with_reducible refine (P3.out _ hb).mono ?_); rintro e w6 ⟨rfl, hb6⟩)
      have hbA := below_alloc w6 (.cells #[.string ⟨pc.toArray⟩, .string ⟨pa.toArray⟩] 25)
      have x11 := FBox.new w6 (.string ⟨pc.toArray⟩) (.string ⟨pa.toArray⟩) 25
      replace hb6 := bto hb6 hbA
      clear hbA
      replace hb := bto hb hb6
      clear hb6 P3
      go_wp2_with fail
      ((with_reducible refine (P4.out _ hb).mono ?_); rintro e w7 ⟨rfl, hb7⟩)
      have hbA := below_alloc w7 (.cells #[.string ⟨pc.toArray⟩, .string ⟨pa.toArray⟩] 25)
      have x13 := FBox.new w7 (.string ⟨pc.toArray⟩) (.string ⟨pa.toArray⟩) 25
      replace hb7 := bto hb7 hbA
      clear hbA
      replace x11 := x11.below hb7
      replace hb := bto hb hb7
      clear hb7 P4
      have q0 := x11.c0
      have q1 := x11.c1
      have q2 := x13.c0
      have q3 := x13.c1
      go_wp2_with fail
      ((with_reducible refine (HAw.out.of hG hb).mono ?_); rintro e wz ⟨rfl, hbz⟩)
      replace hb := bto hb hbz
      clear hbz
      go_wp2
      go_ret
      exact ⟨rfl, hb⟩
end Go.Proofs.YtdjjlbfleibhjaaGreatDoor
