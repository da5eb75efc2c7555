/- The law MoneyTables. -/
import Derived.Test.YtgnppdkeiihlfaaGreatDoorM6
namespace Go.Proofs.YtgnppdkeiihlfaaGreatDoor
open Go.RowKit Num
theorem curV_form (o : Option Cur) : ∃ (k : List UInt8) (p : Int) (b : Bool), curV o = .tuple #[.agg #[.string ⟨k.toArray⟩, .int .i64 p], .bool b] := by
  cases o with
  | none => exact ⟨[], 0, false, rfl⟩
  | some t => exact ⟨t.code, t.places, true, rfl⟩
set_option maxHeartbeats 8000000 in
set_option maxRecDepth 100000 in
theorem tables5_law (A : Option Addr) (ts : List Cur) (n c : Nat) (code : List UInt8) (w : World) (hG : Glob w)
    (hn : ts.length = n) (hc : n ≤ c) (hm : n ≤ 9223372036854775807) (hI : CurAt w A ts) :
    Calls Tryz.prog 11 #[.slice A n c, .string ⟨code.toArray⟩] w fun e w' => e = .returned (.bool true) ∧ Below w.heap.size w w' := by
  have HAw := Lib.hid wAwake5
  have hb := Below.refl w.heap.size w
  have CG := Lib.hid (rGreatT A ts n c w hn hc hm hI)
  have HI := Lib.hid hI
  clear hn hm hI
  go_enter Tryz.func11, Tryz.ntmps11
  go_wp2_with fail
  refine CG.out.mono ?_
  rintro e w2 ⟨g, rfl, hg, hb2⟩
  have HF := Lib.hid hg
  replace hb := bto hb hb2
  clear hg hb2 CG
  cases g with
  | true =>
    clear HF
    go_wp2_with fail
    ((with_reducible refine (HAw.out.of hG hb).mono ?_); rintro e wz ⟨rfl, hbz⟩)
    replace hb := bto hb hbz
    clear hbz
    go_wp2
    go_ret
    exact ⟨rfl, hb⟩
  | false =>
    have hX := HF.out rfl
    have hT : TL w A ts n c := ⟨hX.len, hX.cap, hX.sm, hX.str, HI.out⟩
    have HT := Lib.hid hT
    clear hX hT HF
    clear HI
    by_cases g8 : 8 < code.length
    · have e1 : decide (8 < code.length) = true := decide_eq_true g8
      have e2 : decide ((8 : Int) < (code.length : Int)) = true := decide_eq_true (by omega)
      clear g8 HT
      go_wp2_with fail
      ((with_reducible refine (HAw.out.of hG hb).mono ?_); rintro e wz ⟨rfl, hbz⟩)
      replace hb := bto hb hbz
      clear hbz
      go_wp2
      go_ret
      exact ⟨rfl, hb⟩
    have e1 : decide (8 < code.length) = false := decide_eq_false g8
    have e2 : decide ((8 : Int) < (code.length : Int)) = false := decide_eq_false (by omega)
    have K1 := mFindB HT.out code
    have K2 := jFindB HT.out code
    have K3 := Lib.hid (mTableB hG HT.out)
    have K4 := Lib.hid (jTableB hG HT.out)
    obtain ⟨cc, cp, cb, hcv⟩ := curV_form (findT ts code)
    rw [hcv] at K1 K2
    have K1 := Lib.hid K1
    have K2 := Lib.hid K2
    have hE := fun (w : World) => eqC1 ⟨cc, cp⟩ ⟨cc, cp⟩ w
    simp only [sameC_self] at hE
    have hEG := guardC
    generalize tabE ts = E at *
    clear hcv HT g8
    go_wp2_with fail
    ((with_reducible refine (K1.out.of hG hb).mono ?_); rintro e w3 ⟨rfl, hb3⟩)
    have hbA := below_alloc w3 (.cells #[.string ⟨cc.toArray⟩, .int .i64 cp] 64)
    have x5 := FBox.new w3 (.string ⟨cc.toArray⟩) (.int .i64 cp) 64
    replace hb3 := bto hb3 hbA
    clear hbA
    replace hb := bto hb hb3
    clear hb3
    go_wp2_with fail
    ((with_reducible refine (K2.out.of hG hb).mono ?_); rintro e w4 ⟨rfl, hb4⟩)
    have hbA := below_alloc w4 (.cells #[.string ⟨cc.toArray⟩, .int .i64 cp] 64)
    have x7 := FBox.new w4 (.string ⟨cc.toArray⟩) (.int .i64 cp) 64
    replace hb4 := bto hb4 hbA
    clear hbA
    replace x5 := x5.below hb4
    replace hb := bto hb hb4
    clear hb4
    clear K1 K2
    go_wp2_with fail
    ((with_reducible refine (K3.out.of hG hb).mono ?_); rintro e w5 ⟨rfl, hb5⟩)
    replace x5 := x5.below hb5
    replace x7 := x7.below hb5
    replace hb := bto hb hb5
    clear hb5
    go_wp2_with fail
    ((with_reducible refine (K4.out.of hG hb).mono ?_); rintro e w6 ⟨rfl, hb6⟩)
    replace x5 := x5.below hb6
    replace x7 := x7.below hb6
    replace hb := bto hb hb6
    clear hb6
    have q0 := x5.c0
    have q1 := x5.c1
    have q2 := x7.c0
    have q3 := x7.c1
    clear K3 K4
    go_wp2_with fail
    ((with_reducible refine (HAw.out.of hG hb).mono ?_); rintro e wz ⟨rfl, hbz⟩)
    replace hb := bto hb hbz
    clear hbz
    go_wp2
    go_ret
    exact ⟨rfl, hb⟩
end Go.Proofs.YtgnppdkeiihlfaaGreatDoor
