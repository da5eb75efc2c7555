/- TimeweightedFirst. -/
import Derived.Test.YtmjglcgdcclinaaGreatDoorTk
namespace Go.Proofs.YtmjglcgdcclinaaGreatDoor
open Go.RowKit Num
theorem FBox.far1 {W : World} {b c i : Nat} {u v x : Value} (h : FBox W b u v) (hn : b ≠ c) : FBox (W.setCell ⟨c, i, none⟩ x) b u v := by
  obtain ⟨c0, c1, f0, f1, lt⟩ := h
  exact ⟨by simp [go_sem, c0], by simp [go_sem, c1], by simp [go_sem, f0], by simp [go_sem, f1], by simp [lt]⟩
theorem take_noFlow {ts : List Pnt} {a : Pnt} (ha : ts[0]? = some a) : ts = a :: ts.drop 1 := by
  cases ts with
  | nil => cases ha
  | cons b r =>
    have : b = a := by simpa using ha
    subst this; rfl

set_option maxHeartbeats 8000000 in
set_option maxRecDepth 100000 in
theorem first_law (A : Option Addr) (ts : List Pnt) (n c : Nat) (l : List UInt8) (hl64 : l.length ≤ 9223372036854775807) (w : World) (hG : Glob w) (hn : ts.length = n) (hnc : n ≤ c) (hnm : n ≤ 9223372036854775807) (h : PntAt w A ts) :
    Calls Tryz.prog 7 #[.slice A n c, .string ⟨l.toArray⟩] w fun e w' => e = .returned (.bool true) ∧ Below w.heap.size w w' := by
  have CW := Lib.hid wAwake46
  have CF := Lib.hid (rFine A ts n c w hG hn hnm h)
  have HI := Lib.hid h
  have HN := Lib.hid hn
  have hb := Below.refl w.heap.size w
  clear h hn
  by_cases h2 : n < 2
  · have e1 : decide (n < 2) = true := decide_eq_true h2
    go_enter Tryz.func7, Tryz.ntmps7
    go_wp2_with fail
    ((with_reducible refine (CW.out.of hG hb).mono ?_); rintro e w99 ⟨rfl, hb99⟩)
    go_wp2
    go_ret
    exact ⟨rfl, bto hb hb99⟩
  have e1 : decide (n < 2) = false := decide_eq_false h2
  go_enter Tryz.func7, Tryz.ntmps7
  go_wp2_with fail
  refine CF.out.mono ?_
  rintro e w2 ⟨b, rfl, hq, hb2⟩
  replace hb := bto hb hb2
  clear hb2 CF
  cases b
  · clear hq
    go_wp2_with fail
    ((with_reducible refine (CW.out.of hG hb).mono ?_); rintro e w99 ⟨rfl, hb99⟩)
    go_wp2
    go_ret
    exact ⟨rfl, bto hb hb99⟩
  obtain ⟨HQ0, g0⟩ := hq rfl
  clear hq
  by_cases gc : l = canon (val l)
  rotate_left
  · have C1 := Lib.hid (qCheckBig (l := l) (c := 1) hl64 (if_neg gc))
    clear gc
    go_wp2_with fail
    ((with_reducible refine (C1.out.of hG hb).mono ?_); rintro e w3 ⟨rfl, hb3⟩)
    replace hb := bto hb hb3
    clear hb3 C1
    go_wp2_with fail
    ((with_reducible refine (CW.out.of hG hb).mono ?_); rintro e w99 ⟨rfl, hb99⟩)
    go_wp2
    go_ret
    exact ⟨rfl, bto hb hb99⟩
  have C1 := Lib.hid (qCheckBig (l := l) (c := 0) hl64 (if_pos gc))
  by_cases g40 : 40 < l.length
  · have e2 : decide (40 < l.length) = true := decide_eq_true g40
    clear gc
    go_wp2_with fail
    ((with_reducible refine (C1.out.of hG hb).mono ?_); rintro e w3 ⟨rfl, hb3⟩)
    replace hb := bto hb hb3
    clear hb3 C1
    go_wp2_with fail
    ((with_reducible refine (CW.out.of hG hb).mono ?_); rintro e w99 ⟨rfl, hb99⟩)
    go_wp2
    go_ret
    exact ⟨rfl, bto hb hb99⟩
  have e2 : decide (40 < l.length) = false := decide_eq_false g40
  obtain ⟨m, rfl⟩ : ∃ m, n = m + 1 := ⟨n - 1, by omega⟩
  have hm : 1 ≤ m := by omega
  obtain ⟨-, hn12, -, -, -⟩ := HQ0.ok g0
  obtain ⟨a, ha⟩ : ∃ a, ts[0]? = some a := ⟨_, List.getElem?_eq_getElem (by rw [HN.out]; omega)⟩
  obtain ⟨z, hz⟩ : ∃ z, ts[m]? = some z := ⟨_, List.getElem?_eq_getElem (by rw [HN.out]; omega)⟩
  obtain ⟨hE1, hR1, hD1⟩ := last_vals (f := l) hm HN.out hz g0 gc (by omega)
  have hrf := ret_form g0
  obtain ⟨da, db, dc, hdf⟩ := dtz_form ts
  obtain ⟨ts1, hts1⟩ : ∃ ts1, ts1 = ts.set m ⟨z.day, z.vl, l⟩ := ⟨_, rfl⟩
  rw [← hts1] at hE1 hR1 hD1
  have hlen1 : ts1.length = m + 1 := by rw [hts1, List.length_set]; exact HN.out
  have hstr1 : ∀ t ∈ ts1, t.vl.length ≤ 60 ∧ t.fl.length ≤ 60 := fun t ht => by
    rw [hts1] at ht
    rcases List.mem_or_eq_of_mem_set ht with h | h
    · exact HQ0.str t h
    · rw [h]; exact ⟨(HQ0.str z (List.mem_of_getElem? hz)).1, by show l.length ≤ 60; omega⟩
  have ha1 : ts1[0]? = some a := by rw [hts1, List.getElem?_set_ne (by omega)]; exact ha
  have CK := Lib.hid (fun (w' : World) (hb : Below w.heap.size w w') => cloneQ A ts (m + 1) c w' HN.out (by omega) (by omega) (HI.out.below hb))
  have CR := Lib.hid (twReturn hG HQ0 c)
  have CD := Lib.hid (twDietz hG HQ0 c hnc)
  rw [hrf] at CR
  rw [hdf] at CD
  obtain ⟨rr, hrr⟩ : ∃ rr, rr = prodQ 1 (facs (pts ts)) - 1 := ⟨_, rfl⟩
  rw [← hrr] at CR hrf
  rw [hrf] at hR1
  rw [hdf] at hD1
  have HSet : Hid ((rowsQ ts).set (m * 3 + 2) (.string ⟨l.toArray⟩) = rowsQ ts1) := by show _ = _; rw [hts1]; exact rowsQ_setF l hz
  have hcell : Hid (∃ v, (rowsQ ts)[m * 3 + 2]? = some (.string v)) := ⟨_, (rowsQ_at hz).2.2⟩
  have HE1 := Lib.hid hE1
  have HR1 := Lib.hid hR1
  have HD1 := Lib.hid hD1
  have HL1 := Lib.hid hlen1
  have HS1 := Lib.hid hstr1
  have HA1 := Lib.hid ha1
  clear HQ0 g0 gc ha hz hE1 hR1 hD1 hrf hdf hts1 hlen1 hstr1 ha1 hrr
  have hwm : IntKind.i64.wrap (m : Int) = (m : Int) := Go.IntWalk.i64_in _ (by omega)
  have hlm : (m : Int) < (m : Int) + 1 := by omega
  go_wp2_with fail
  ((with_reducible refine (C1.out.of hG hb).mono ?_); rintro e w3 ⟨rfl, hb3⟩)
  replace hb := bto hb hb3
  clear hb3 C1
  go_wp2_with fail
  refine (CK.out _ hb).mono ?_
  rintro e w4 ⟨g, cp, rfl, hcp, -, hwg, -, hrow, hb4⟩
  have hsz := hb.size
  have hgw : w.heap.size ≤ g := Nat.le_trans hsz hwg
  replace hb := bto hb hb4
  obtain ⟨v0, hv0⟩ := hcell.out
  have q0 := hrow.cell hv0
  have q1 := hrow.free (m * 3 + 2)
  clear hb4 CK hcell
  go_wp2_with fail
  have HR := hrow.set (m * 3 + 2) (.string ⟨l.toArray⟩)
  rw [HSet.out] at HR
  replace hb : Below w.heap.size w (w4.setCell ⟨g, m * 3 + 2, none⟩ (.string ⟨l.toArray⟩)) := hb.setCell (p := ⟨g, m * 3 + 2, none⟩) hgw _
  obtain ⟨ws, hws⟩ : ∃ ws, ws = w4.setCell ⟨g, m * 3 + 2, none⟩ (.string ⟨l.toArray⟩) := ⟨_, rfl⟩
  rw [← hws] at HR hb ⊢
  have hGs := hG.below hb
  have HQ1 : QL ws (some ⟨g, 0, none⟩) ts1 (m + 1) := ⟨HL1.out, by omega, .inl hn12, HS1.out, crow_pnt HR⟩
  have CR2 := Lib.hid (twReturn hGs HQ1 cp)
  have CD2 := Lib.hid (twDietz hGs HQ1 cp hcp)
  rw [HR1.out] at CR2
  rw [HD1.out] at CD2
  have hs := Below.refl ws.heap.size ws
  have hgs := HR.lt
  clear hws hrow q0 q1 hv0 hwg HQ1
  go_wp2_with fail
  ((with_reducible refine (CR.out.of hG hb).mono ?_); rintro e w5 ⟨rfl, hb5⟩)
  have hbA := below_alloc w5 (.cells #[.string ⟨(fN rr).toArray⟩, .string ⟨(fD rr).toArray⟩] 32)
  have x6 := FBox.new w5 (.string ⟨(fN rr).toArray⟩) (.string ⟨(fD rr).toArray⟩) 32
  have hbC := bto hb5 hbA
  replace HR := HR.below hbC
  replace hb := bto hb hbC
  replace hs := bto hs hbC
  have hz5 := hb5.size
  (try simp only [World.size_alloc] at hz5)
  clear hb5 hbA hbC
  go_wp2_with fail
  ((with_reducible refine (CR2.out.of hGs hs).mono ?_); rintro e w6 ⟨rfl, hb6⟩)
  have hbA := below_alloc w6 (.cells #[.string ⟨(fN rr).toArray⟩, .string ⟨(fD rr).toArray⟩] 32)
  have x8 := FBox.new w6 (.string ⟨(fN rr).toArray⟩) (.string ⟨(fD rr).toArray⟩) 32
  have hbC := bto hb6 hbA
  replace x6 := x6.below hbC
  replace HR := HR.below hbC
  replace hb := bto hb hbC
  replace hs := bto hs hbC
  have hz6 := hb6.size
  (try simp only [World.size_alloc] at hz6)
  clear hb6 hbA hbC
  go_wp2_with fail
  ((with_reducible refine (CD.out.of hG hb).mono ?_); rintro e w7 ⟨rfl, hb7⟩)
  have hbA := below_alloc w7 (.cells #[.string ⟨(da).toArray⟩, .string ⟨(db).toArray⟩] 32)
  have x10 := FBox.new w7 (.string ⟨(da).toArray⟩) (.string ⟨(db).toArray⟩) 32
  have hbC := bto hb7 hbA
  replace x6 := x6.below hbC
  replace x8 := x8.below hbC
  replace HR := HR.below hbC
  replace hb := bto hb hbC
  replace hs := bto hs hbC
  have hz7 := hb7.size
  (try simp only [World.size_alloc] at hz7)
  clear hb7 hbA hbC
  go_wp2_with fail
  ((with_reducible refine (CD2.out.of hGs hs).mono ?_); rintro e w8 ⟨rfl, hb8⟩)
  have hbA := below_alloc w8 (.cells #[.string ⟨(da).toArray⟩, .string ⟨(db).toArray⟩] 32)
  have x12 := FBox.new w8 (.string ⟨(da).toArray⟩) (.string ⟨(db).toArray⟩) 32
  have hbC := bto hb8 hbA
  replace x6 := x6.below hbC
  replace x8 := x8.below hbC
  replace x10 := x10.below hbC
  replace HR := HR.below hbC
  replace hb := bto hb hbC
  replace hs := bto hs hbC
  have hz8 := hb8.size
  (try simp only [World.size_alloc] at hz8)
  clear hb8 hbA hbC
  have qx60 := x6.c0
  have qx61 := x6.c1
  have qx80 := x8.c0
  have qx81 := x8.c1
  have qx100 := x10.c0
  have qx101 := x10.c1
  have qx120 := x12.c0
  have qx121 := x12.c1
  have hn5 : w5.heap.size ≠ g := by omega
  have hn7 : w7.heap.size ≠ g := by omega
  have hn57 : w5.heap.size ≠ w7.heap.size := by omega
  have hw5 : w.heap.size ≤ w5.heap.size := by omega
  have hw7 : w.heap.size ≤ w7.heap.size := by omega
  go_wp2_with fail
  go_loopw [14] (fun iv wr => ∃ k : Nat, k + 1 ≤ m + 1 ∧ iv = .int .i64 ((k : Int) + 1) ∧ CRow wr g 50 (rowsQ (a :: mixF noFlow (ts1.drop 1) k)) ∧ FBox wr w5.heap.size (.string ⟨(fN rr).toArray⟩) (.string ⟨(fD rr).toArray⟩) ∧ FBox wr w7.heap.size (.string ⟨da.toArray⟩) (.string ⟨db.toArray⟩) ∧ Below w.heap.size w wr) (fun iv _ => m + 2 - (intOf iv).toNat)
  case atStart => exact ⟨0, by omega, rfl, by rw [mix_zero, ← take_noFlow HA1.out]; exact HR, x6, x10, hb⟩
  case round =>
    clear hb hs HR x6 x8 x10 x12 qx60 qx61 qx80 qx81 qx100 qx101 qx120 qx121 CR CR2 CD CD2
    obtain ⟨k, hk, rfl, HR, x6, x10, hb⟩ := hrel
    by_cases hlt : k < m
    · obtain ⟨t, ht⟩ : ∃ t, (ts1.drop 1)[k]? = some t := ⟨_, List.getElem?_eq_getElem (by rw [List.length_drop, HL1.out]; omega)⟩
      have hx : (a :: mixF noFlow (ts1.drop 1) k)[k + 1]? = some t := mix_at ht
      obtain ⟨v1, hv1⟩ : ∃ v, (rowsQ (a :: mixF noFlow (ts1.drop 1) k))[(k + 1) * 3 + 2]? = some (.string v) := ⟨_, (rowsQ_at hx).2.2⟩
      have q0 := HR.cell hv1
      have q1 := HR.free ((k + 1) * 3 + 2)
      have HR2 := HR.set ((k + 1) * 3 + 2) (.string ⟨([] : List UInt8).toArray⟩)
      rw [rowsQ_setF [] hx, show (a :: mixF noFlow (ts1.drop 1) k).set (k + 1) ⟨t.day, t.vl, []⟩ = a :: mixF noFlow (ts1.drop 1) (k + 1) from congrArg (a :: ·) (mix_set ht)] at HR2
      have HR2' := Lib.hid HR2
      have hb2 := Lib.hid (hb.setCell (p := ⟨g, (k + 1) * 3 + 2, none⟩) hgw (.string ⟨([] : List UInt8).toArray⟩))
      have y6 := Lib.hid (x6.far1 (i := (k + 1) * 3 + 2) (x := .string ⟨([] : List UInt8).toArray⟩) hn5)
      have y10 := Lib.hid (x10.far1 (i := (k + 1) * 3 + 2) (x := .string ⟨([] : List UInt8).toArray⟩) hn7)
      have k1 : (k : Int) + 1 < (m : Int) + 1 := by omega
      have k2 : ((k : Int) + 1).toNat = k + 1 := by omega
      clear HR2 HR x6 x10 hb hv1 ht hx
      go_wp2
      go_roundw
      case rel => exact ⟨k + 1, by omega, by go_num, HR2'.out, y6.out, y10.out, hb2.out⟩
      case measure => simp [intOf]; omega
    obtain rfl : k = m := by omega
    rw [mix_all (by rw [List.length_drop, HL1.out]; omega)] at HR
    obtain ⟨ts2, hts2⟩ : ∃ ts2, ts2 = (ts1.drop 1).map noFlow := ⟨_, rfl⟩
    rw [← hts2] at HR
    have hl2 : (a :: ts2).length = k + 1 := by rw [hts2, List.length_cons, List.length_map, List.length_drop, HL1.out]; omega
    have HQ2 : QL wr (some ⟨g, 0, none⟩) (a :: ts2) (k + 1) := ⟨hl2, by omega, .inl hn12, fun t ht => by
      rcases List.mem_cons.1 ht with rfl | ht
      · exact HS1.out _ (List.mem_of_getElem? HA1.out)
      · rw [hts2] at ht
        obtain ⟨y, hy, rfl⟩ := List.mem_map.1 ht
        exact ⟨(HS1.out y (List.mem_of_mem_drop hy)).1, by show ([] : List UInt8).length ≤ 60; decide⟩, crow_pnt HR⟩
    have hGr := hG.below hb
    have CK := Lib.hid (rwCheckB hGr HQ2 cp)
    have hr := Below.refl wr.heap.size wr
    by_cases g2 : pntE (a :: ts2) = 0
    rotate_left
    · have e3 : (pntE (a :: ts2) != 0) = true := bneq' (intbne g2)
      generalize pntE (a :: ts2) = E at *
      clear g2 HQ2
      go_wp2_with fail
      ((with_reducible refine (CK.out.of hGr hr).mono ?_); rintro e w9 ⟨rfl, hb9⟩)
      replace hb := bto hb hb9
      clear hb9 CK
      go_wp2_with fail
      ((with_reducible refine (CW.out.of hG hb).mono ?_); rintro e w99 ⟨rfl, hb99⟩)
      go_wp2
      go_ret
      exact ⟨rfl, bto hb hb99⟩
    rw [g2] at CK
    have hfv := first_vals (a := a) (ts := ts1.drop 1) (fun e => by have := congrArg List.length e; rw [List.length_drop, HL1.out] at this; simp at this; omega) (by rw [← hts2]; exact g2)
    rw [← hts2, ret_form g2] at hfv
    have hrf2 := ret_form g2
    generalize prodQ 1 (facs (pts (a :: ts2))) - 1 = r2 at *
    have CR := Lib.hid (twReturn hGr HQ2 cp)
    rw [hrf2] at CR
    have hgl := HR.lt
    clear hrf2 hts2 g2
    go_wp2_with fail
    ((with_reducible refine (CK.out.of hGr hr).mono ?_); rintro e w9 ⟨rfl, hb9⟩)
    replace x6 := x6.below hb9
    replace x10 := x10.below hb9
    replace HR := HR.below hb9
    replace hb := bto hb hb9
    replace hr := bto hr hb9
    clear hb9 CK
    go_wp2_with fail
    ((with_reducible refine (CR.out.of hGr hr).mono ?_); rintro e w10 ⟨rfl, hb10⟩)
    replace x6 := x6.below hb10
    replace x10 := x10.below hb10
    replace HR := HR.below hb10
    replace hb := bto hb hb10
    clear hb10 CR hr
    have g0 := x6.c0
    have g1 := x6.c1
    have g2 := x6.f0
    have g3 := x6.f1
    go_wp2_with fail
    obtain ⟨wt, hwt⟩ : ∃ wt, wt = (w10.setCell ⟨w5.heap.size, 0, none⟩ (.string ⟨(fN r2).toArray⟩)).setCell ⟨w5.heap.size, 1, none⟩ (.string ⟨(fD r2).toArray⟩) := ⟨_, rfl⟩
    replace x10 := x10.setNe (Ne.symm hn57) (.string ⟨(fN r2).toArray⟩) (.string ⟨(fD r2).toArray⟩)
    replace x6 := x6.set (.string ⟨(fN r2).toArray⟩) (.string ⟨(fD r2).toArray⟩)
    replace HR := (HR.far (i := 0) (u := .string ⟨(fN r2).toArray⟩) (Ne.symm hn5)).far (i := 1) (u := .string ⟨(fD r2).toArray⟩) (Ne.symm hn5)
    replace hb := below_set2 (b := w5.heap.size) hb hw5 (.string ⟨(fN r2).toArray⟩) (.string ⟨(fD r2).toArray⟩)
    rw [← hwt] at x6 x10 HR hb ⊢
    clear hwt g0 g1 g2 g3
    have hGt := hG.below hb
    have HQ3 : QL wt (some ⟨g, 0, none⟩) (a :: ts2) (k + 1) := ⟨HQ2.len, HQ2.sm, HQ2.gap, HQ2.str, crow_pnt HR⟩
    have CD := Lib.hid (twDietz hGt HQ3 cp hcp)
    rw [hfv] at CD
    clear HQ2 HQ3 hfv
    go_wp2_with fail
    ((with_reducible refine (CD.out.of hGt (Below.refl _ _)).mono ?_); rintro e w11 ⟨rfl, hb11⟩)
    replace x6 := x6.below hb11
    replace x10 := x10.below hb11
    replace hb := bto hb hb11
    clear hb11 CD HR
    have g0 := x10.c0
    have g1 := x10.c1
    have g2 := x10.f0
    have g3 := x10.f1
    have y6 := x6.setNe hn57 (.string ⟨(fN r2).toArray⟩) (.string ⟨(fD r2).toArray⟩)
    have y10 := x10.set (.string ⟨(fN r2).toArray⟩) (.string ⟨(fD r2).toArray⟩)
    replace hb := below_set2 (b := w7.heap.size) hb hw7 (.string ⟨(fN r2).toArray⟩) (.string ⟨(fD r2).toArray⟩)
    have k0 := y6.c0
    have k1 := y6.c1
    have k2 := y10.c0
    have k3 := y10.c1
    clear x6 x10 y6 y10
    go_wp2_with fail
    ((with_reducible refine (CW.out.of hG hb).mono ?_); rintro e w99 ⟨rfl, hb99⟩)
    go_wp2
    go_ret
    exact ⟨rfl, bto hb hb99⟩
end Go.Proofs.YtmjglcgdcclinaaGreatDoor
