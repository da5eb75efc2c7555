/- MoneyweightedValues. -/
import Derived.Test.YtolbojchdlojnaaGreatDoorWo
namespace Go.Proofs.YtolbojchdlojnaaGreatDoor
open Go.RowKit Num
theorem valV_form (ps : List Pay) (l l' : List UInt8) : ∃ (a b : List UInt8) (c : Int), valV ps l l' = .tuple #[(Value.agg #[Value.string ⟨List.toArray a⟩, Value.string ⟨List.toArray b⟩]), .int .i64 c] := by
  unfold valV
  split
  · exact ⟨[], [], 1, rfl⟩
  · split
    · exact ⟨[], [], 2, rfl⟩
    · exact ⟨_, _, 0, rfl⟩
theorem chgV_form (ps : List Pay) : ∃ (m c : Int), chgV ps = .tuple #[.int .i64 m, .int .i64 c] := by
  unfold chgV
  split
  · exact ⟨_, 0, rfl⟩
  · exact ⟨0, 1, rfl⟩
theorem profV_form (ps : List Pay) : ∃ (s : List UInt8) (c : Int), profV ps = .tuple #[.string ⟨s.toArray⟩, .int .i64 c] := by
  unfold profV
  split
  · exact ⟨_, 0, rfl⟩
  · exact ⟨[], 1, rfl⟩
theorem good_val {ps : List Pay} {n K : Nat} {q : Rat} (h : GoodP ps n) (h0 : payE ps = 0) (hq : Bd K q) (hK : K ≤ 50) : ValAt ps q := by
  have hn : n ≤ 8 := by
    obtain ⟨-, h2, -⟩ := payE_ok h0
    have := h.sz; have := h.len; omega
  exact good_valAt (M := 13) h.len hn (h.span h0 hn) h0 hq (by decide) (fun t ht => ⟨val_lt_of (h.am t ht), Nat.le_trans (h.am t ht) (by decide)⟩) (by omega)
set_option maxHeartbeats 4000000 in
set_option maxRecDepth 100000 in
theorem mvalues_law (A : Option Addr) (ps : List Pay) (n c : Nat) (l l' : List UInt8) (w : World) (hG : Glob w) (hn : ps.length = n) (hnm : n ≤ 9223372036854775807) (hI : PayAt w A ps) :
    Calls Tryz.prog 5 #[.slice A n c, (Value.agg #[Value.string ⟨List.toArray l⟩, Value.string ⟨List.toArray l'⟩])] w fun e w' => e = .returned (.bool true) ∧ Below w.heap.size w w' := by
  have CW := Lib.hid wAwake47
  have CL := Lib.hid (wLong l l')
  have HI := Lib.hid hI
  have x3 := FBox.new w (.string ⟨l.toArray⟩) (.string ⟨l'.toArray⟩) 30
  have hb := below_alloc w (.cells #[.string ⟨l.toArray⟩, .string ⟨l'.toArray⟩] 30)
  clear hI
  go_enter Tryz.func5, Tryz.ntmps5
  go_wp2_with fail
  ((with_reducible refine (mrGreat A ps n c _ (hG.below hb) hn hnm (HI.out.below hb)).mono ?_); rintro e w1 ⟨g, rfl, hgd, hb1⟩)
  replace x3 := x3.below hb1
  replace hb := bto hb hb1
  clear hb1
  cases g
  rotate_left
  · clear hgd
    clear x3
    go_wp2_with fail
    ((with_reducible refine (CW.out.of hG hb).mono ?_); rintro e w2 ⟨rfl, hb2⟩)
    replace hb := bto hb hb2
    clear hb2
    go_wp2
    go_ret
    exact ⟨rfl, hb⟩
  have HGd := Lib.hid (hgd rfl)
  clear hgd hn hnm
  have qx3_0 := x3.c0
  have qx3_1 := x3.c1
  go_wp2_with fail
  ((with_reducible refine (CL.out.of hG hb).mono ?_); rintro e w2 ⟨rfl, hb2⟩)
  clear qx3_0 qx3_1
  replace x3 := x3.below hb2
  replace hb := bto hb hb2
  clear hb2
  cases hlong : longF l l'
  rotate_left
  · clear x3
    go_wp2_with fail
    ((with_reducible refine (CW.out.of hG hb).mono ?_); rintro e w3 ⟨rfl, hb3⟩)
    replace hb := bto hb hb3
    clear hb3
    go_wp2
    go_ret
    exact ⟨rfl, hb⟩
  obtain ⟨h0, h1⟩ := longF_f hlong
  clear hlong
  have HP : Hid (PL w A ps n) := HGd.out.pl HI.out
  have hV : payE ps = 0 → 0 < fv l l' → ValAt ps (fv l l') := fun g _ => good_val HGd.out g (bd_fv h0 h1 (by decide)) (by decide)
  have HVV := Lib.hid hV
  have c1 : RetB w 25 #[.slice A n c, (Value.agg #[Value.string ⟨List.toArray l⟩, Value.string ⟨List.toArray l'⟩])] (valV ps l l') := fun w' hb => mwVal A ps n c l l' w' (hG.below hb) (HP.out.below hb) (by omega) (by omega) HVV.out
  have c2 : RetB w 26 #[.slice A n c, (Value.agg #[Value.string ⟨List.toArray l⟩, Value.string ⟨List.toArray l'⟩])] (valV ps l l') := fun w' hb => mrVal A ps n c l l' w' (hG.below hb) (HP.out.below hb) (by omega) (by omega) HVV.out
  have c3 : RetB w 27 #[.slice A n c] (chgV ps) := fun w' hb => mwChanges A ps n c w' (hG.below hb) (HP.out.below hb)
  have c4 : RetB w 28 #[.slice A n c] (chgV ps) := fun w' hb => mrChanges A ps n c w' (hG.below hb) (HP.out.below hb)
  have c5 : RetB w 29 #[.slice A n c] (profV ps) := fun w' hb => mwProfit A ps n c w' (hG.below hb) (HP.out.below hb)
  have c6 : RetB w 30 #[.slice A n c] (profV ps) := fun w' hb => mrProfit A ps n c w' (hG.below hb) (HP.out.below hb)
  obtain ⟨va, vb, vc, hv⟩ := valV_form ps l l'
  obtain ⟨ga, gb, hg⟩ := chgV_form ps
  obtain ⟨pa, pb, hp⟩ := profV_form ps
  rw [hv] at c1 c2
  rw [hg] at c3 c4
  rw [hp] at c5 c6
  have C1 := Lib.hid c1
  have C2 := Lib.hid c2
  have C3 := Lib.hid c3
  have C4 := Lib.hid c4
  have C5 := Lib.hid c5
  have C6 := Lib.hid c6
  have C7 := Lib.hid (mwCheckB hG HP.out c)
  have C8 := Lib.hid (mrCheckB hG HP.out c)
  generalize payE ps = E at *
  clear c1 c2 c3 c4 c5 c6 hv hg hp hV HVV h0 h1 HGd HP HI
  have qx3_0 := x3.c0
  have qx3_1 := x3.c1
  go_wp2_with fail
  ((with_reducible refine (C1.out.of hG hb).mono ?_); rintro e w3 ⟨rfl, hb3⟩)
  clear qx3_0 qx3_1
  replace x3 := x3.below hb3
  replace hb := bto hb hb3
  clear hb3
  replace x3 := x3.below (below_alloc w3 (.cells #[.string ⟨va.toArray⟩, .string ⟨vb.toArray⟩] 30))
  have x5 := FBox.new w3 (.string ⟨va.toArray⟩) (.string ⟨vb.toArray⟩) 30
  replace hb := bto hb (below_alloc w3 (.cells #[.string ⟨va.toArray⟩, .string ⟨vb.toArray⟩] 30))
  have qx3_0 := x3.c0
  have qx3_1 := x3.c1
  go_wp2_with fail
  ((with_reducible refine (C2.out.of hG hb).mono ?_); rintro e w4 ⟨rfl, hb4⟩)
  clear qx3_0 qx3_1
  replace x3 := x3.below hb4
  replace x5 := x5.below hb4
  replace hb := bto hb hb4
  clear hb4
  replace x3 := x3.below (below_alloc w4 (.cells #[.string ⟨va.toArray⟩, .string ⟨vb.toArray⟩] 30))
  replace x5 := x5.below (below_alloc w4 (.cells #[.string ⟨va.toArray⟩, .string ⟨vb.toArray⟩] 30))
  have x7 := FBox.new w4 (.string ⟨va.toArray⟩) (.string ⟨vb.toArray⟩) 30
  replace hb := bto hb (below_alloc w4 (.cells #[.string ⟨va.toArray⟩, .string ⟨vb.toArray⟩] 30))
  clear x3
  go_wp2_with fail
  ((with_reducible refine (C3.out.of hG hb).mono ?_); rintro e w5 ⟨rfl, hb5⟩)
  replace x5 := x5.below hb5
  replace x7 := x7.below hb5
  replace hb := bto hb hb5
  clear hb5
  go_wp2_with fail
  ((with_reducible refine (C4.out.of hG hb).mono ?_); rintro e w6 ⟨rfl, hb6⟩)
  replace x5 := x5.below hb6
  replace x7 := x7.below hb6
  replace hb := bto hb hb6
  clear hb6
  go_wp2_with fail
  ((with_reducible refine (C5.out.of hG hb).mono ?_); rintro e w7 ⟨rfl, hb7⟩)
  replace x5 := x5.below hb7
  replace x7 := x7.below hb7
  replace hb := bto hb hb7
  clear hb7
  go_wp2_with fail
  ((with_reducible refine (C6.out.of hG hb).mono ?_); rintro e w8 ⟨rfl, hb8⟩)
  replace x5 := x5.below hb8
  replace x7 := x7.below hb8
  replace hb := bto hb hb8
  clear hb8
  go_wp2_with fail
  ((with_reducible refine (C7.out.of hG hb).mono ?_); rintro e w9 ⟨rfl, hb9⟩)
  replace x5 := x5.below hb9
  replace x7 := x7.below hb9
  replace hb := bto hb hb9
  clear hb9
  go_wp2_with fail
  ((with_reducible refine (C8.out.of hG hb).mono ?_); rintro e w10 ⟨rfl, hb10⟩)
  replace x5 := x5.below hb10
  replace x7 := x7.below hb10
  replace hb := bto hb hb10
  clear hb10
  have qx5_0 := x5.c0
  have qx5_1 := x5.c1
  have qx7_0 := x7.c0
  have qx7_1 := x7.c1
  go_wp2_with fail
  ((with_reducible refine (CW.out.of hG hb).mono ?_); rintro e w11 ⟨rfl, hb11⟩)
  clear qx5_0 qx5_1 qx7_0 qx7_1
  replace x5 := x5.below hb11
  replace x7 := x7.below hb11
  replace hb := bto hb hb11
  clear hb11
  clear x5
  clear x7
  go_wp2
  go_ret
  exact ⟨rfl, hb⟩
end Go.Proofs.YtolbojchdlojnaaGreatDoor
