/- TimeweightedReads. -/
import Derived.Test.YtmjglcgdcclinaaGreatDoorTo
import Derived.Test.YtmjglcgdcclinaaGreatDoorTj
namespace Go.Proofs.YtmjglcgdcclinaaGreatDoor
open Go.RowKit Num
theorem ret_gen (ts : List Pnt) : ∃ (a b : List UInt8) (c : Int), retV ts = .tuple #[(Value.agg #[Value.string ⟨List.toArray a⟩, Value.string ⟨List.toArray b⟩]), .int .i64 c] := by
  unfold retV
  split
  · exact ⟨[], [], _, rfl⟩
  · exact ⟨_, _, _, rfl⟩
set_option maxHeartbeats 8000000 in
set_option maxRecDepth 100000 in
theorem reads_law (A : Option Addr) (ts : List Pnt) (n c : Nat) (w : World) (hG : Glob w) (hn : ts.length = n) (hnc : n ≤ c) (hnm : n ≤ 9223372036854775807) (h : PntAt w A ts) :
    Calls Tryz.prog 4 #[.slice A n c] w fun e w' => e = .returned (.bool true) ∧ Below w.heap.size w w' := by
  have CW := Lib.hid wAwake46
  have CF := Lib.hid (rGreat46 A ts n c w hG hn hnm h)
  have hb := Below.refl w.heap.size w
  clear h hn
  go_enter Tryz.func4, Tryz.ntmps4
  go_wp2_with fail
  refine CF.out.mono ?_
  rintro e w2 ⟨b, rfl, hq, hb2⟩
  replace hb := bto hb hb2
  cases b
  rotate_left
  · clear hq hb2 CF
    go_wp2_with fail
    ((with_reducible refine (CW.out.of hG hb).mono ?_); rintro e w99 ⟨rfl, hb99⟩)
    go_wp2
    go_ret
    exact ⟨rfl, bto hb hb99⟩
  have HQ := (hq rfl).below hb2
  clear hq hb2 CF
  have hG2 := hG.below hb
  have hr := Below.refl w2.heap.size w2
  obtain ⟨ra, rb, rc, hrf⟩ := ret_gen ts
  obtain ⟨da, db, dc, hdf⟩ := dtz_form ts
  have CR := Lib.hid (twReturn hG2 HQ c)
  have CR2 := Lib.hid (rwReturn hG2 HQ c)
  have CD := Lib.hid (twDietz hG2 HQ c hnc)
  have CD2 := Lib.hid (rwDietz hG2 HQ c)
  rw [hrf] at CR CR2
  rw [hdf] at CD CD2
  have CC1 := Lib.hid (twCheckB hG2 HQ c)
  have CC2 := Lib.hid (rwCheckB hG2 HQ c)
  have C1 := Lib.hid (twFactorsA hG2 HQ c)
  have C2 : Hid (∀ w', Below w2.heap.size w2 w' → _) := fun w' hb => rwFactorsA (hG2.below hb) (HQ.below hb) c
  have hfl : (if pntE ts = 0 then facs (pts ts) else []).length ≤ 1000 := by
    have h1 := HQ.len
    have h2 := HQ.sm
    split
    · rw [facs_len, pts_len]; omega
    · exact Nat.zero_le _
  generalize (if pntE ts = 0 then facs (pts ts) else []) = qs at *
  generalize (if pntE ts = 0 then (0 : Int) else 1) = cf at *
  generalize pntE ts = pe at *
  clear hrf hdf HQ
  go_wp2_with fail
  refine C1.out.mono ?_
  rintro e w3 ⟨B1, cp3, rfl, hcp3, HF1, hb3⟩
  replace hb := bto hb hb3
  replace hr := bto hr hb3
  clear hb3 C1 hcp3
  have C2' := Lib.hid (C2.out w3 hr)
  clear C2
  go_wp2_with fail
  refine C2'.out.mono ?_
  rintro e w4 ⟨B2, cp4, rfl, hcp4, HF2, hb4⟩
  replace HF1 := HF1.below hb4
  replace hb := bto hb hb4
  replace hr := bto hr hb4
  clear hb4 C2' hcp4
  go_wp2_with fail
  ((with_reducible refine (CR.out.of hG2 hr).mono ?_); rintro e w5 ⟨rfl, hb5⟩)
  have hbA := below_alloc w5 (.cells #[.string ⟨(ra).toArray⟩, .string ⟨(rb).toArray⟩] 32)
  have x7 := FBox.new w5 (.string ⟨(ra).toArray⟩) (.string ⟨(rb).toArray⟩) 32
  have hbC := bto hb5 hbA
  replace hb := bto hb hbC
  replace hr := bto hr hbC
  replace HF1 := HF1.below hbC
  replace HF2 := HF2.below hbC
  have hz5 := hb5.size
  (try simp only [World.size_alloc] at hz5)
  clear hb5 hbA hbC
  go_wp2_with fail
  ((with_reducible refine (CR2.out.of hG2 hr).mono ?_); rintro e w6 ⟨rfl, hb6⟩)
  have hbA := below_alloc w6 (.cells #[.string ⟨(ra).toArray⟩, .string ⟨(rb).toArray⟩] 32)
  have x9 := FBox.new w6 (.string ⟨(ra).toArray⟩) (.string ⟨(rb).toArray⟩) 32
  have hbC := bto hb6 hbA
  replace x7 := x7.below hbC
  replace hb := bto hb hbC
  replace hr := bto hr hbC
  replace HF1 := HF1.below hbC
  replace HF2 := HF2.below hbC
  have hz6 := hb6.size
  (try simp only [World.size_alloc] at hz6)
  clear hb6 hbA hbC
  go_wp2_with fail
  ((with_reducible refine (CD.out.of hG2 hr).mono ?_); rintro e w7 ⟨rfl, hb7⟩)
  have hbA := below_alloc w7 (.cells #[.string ⟨(da).toArray⟩, .string ⟨(db).toArray⟩] 32)
  have x11 := FBox.new w7 (.string ⟨(da).toArray⟩) (.string ⟨(db).toArray⟩) 32
  have hbC := bto hb7 hbA
  replace x7 := x7.below hbC
  replace x9 := x9.below hbC
  replace hb := bto hb hbC
  replace hr := bto hr hbC
  replace HF1 := HF1.below hbC
  replace HF2 := HF2.below hbC
  have hz7 := hb7.size
  (try simp only [World.size_alloc] at hz7)
  clear hb7 hbA hbC
  go_wp2_with fail
  ((with_reducible refine (CD2.out.of hG2 hr).mono ?_); rintro e w8 ⟨rfl, hb8⟩)
  have hbA := below_alloc w8 (.cells #[.string ⟨(da).toArray⟩, .string ⟨(db).toArray⟩] 32)
  have x13 := FBox.new w8 (.string ⟨(da).toArray⟩) (.string ⟨(db).toArray⟩) 32
  have hbC := bto hb8 hbA
  replace x7 := x7.below hbC
  replace x9 := x9.below hbC
  replace x11 := x11.below hbC
  replace hb := bto hb hbC
  replace hr := bto hr hbC
  replace HF1 := HF1.below hbC
  replace HF2 := HF2.below hbC
  have hz8 := hb8.size
  (try simp only [World.size_alloc] at hz8)
  clear hb8 hbA hbC
  have qx70 := x7.c0
  have qx71 := x7.c1
  have qx90 := x9.c0
  have qx91 := x9.c1
  have qx110 := x11.c0
  have qx111 := x11.c1
  have qx130 := x13.c0
  have qx131 := x13.c1
  go_wp2_with fail
  ((with_reducible refine (CC1.out.of hG2 hr).mono ?_); rintro e w9 ⟨rfl, hb9⟩)
  replace x7 := x7.below hb9
  replace x9 := x9.below hb9
  replace x11 := x11.below hb9
  replace x13 := x13.below hb9
  replace HF1 := HF1.below hb9
  replace HF2 := HF2.below hb9
  replace hb := bto hb hb9
  replace hr := bto hr hb9
  clear hb9 CC1
  go_wp2_with fail
  ((with_reducible refine (CC2.out.of hG2 hr).mono ?_); rintro e w10 ⟨rfl, hb10⟩)
  replace x7 := x7.below hb10
  replace x9 := x9.below hb10
  replace x11 := x11.below hb10
  replace x13 := x13.below hb10
  replace HF1 := HF1.below hb10
  replace HF2 := HF2.below hb10
  replace hb := bto hb hb10
  clear hb10 CC2
  have hql : (frs qs).length = qs.length := by unfold frs; rw [List.length_map]
  have CE := Lib.hid (eqFrs B1 B2 (frs qs) (frs qs) qs.length qs.length cp3 cp4 w10 hql hql (by omega) (by omega) HF1 HF2)
  rw [sameFs_self] at CE
  clear hr HF1 HF2 hql qx70 qx71 qx90 qx91 qx110 qx111 qx130 qx131
  go_wp2_with fail
  ((with_reducible refine CE.out.mono ?_); rintro e w11 ⟨rfl, hb11⟩)
  replace x7 := x7.below hb11
  replace x9 := x9.below hb11
  replace x11 := x11.below hb11
  replace x13 := x13.below hb11
  replace hb := bto hb hb11
  clear hb11 CE
  have qx70 := x7.c0
  have qx71 := x7.c1
  have qx90 := x9.c0
  have qx91 := x9.c1
  have qx110 := x11.c0
  have qx111 := x11.c1
  have qx130 := x13.c0
  have qx131 := x13.c1
  go_wp2_with fail
  ((with_reducible refine (CW.out.of hG hb).mono ?_); rintro e w99 ⟨rfl, hb99⟩)
  go_wp2
  go_ret
  exact ⟨rfl, bto hb hb99⟩
end Go.Proofs.YtmjglcgdcclinaaGreatDoor
