/- TimeweightedScale. -/
import Derived.Test.YtmjglcgdcclinaaGreatDoorBl
import Derived.Test.YtmjglcgdcclinaaGreatDoorLtf
namespace Go.Proofs.YtmjglcgdcclinaaGreatDoor
open Go.RowKit Num
/-! plain: all numbers times z -/
def scP1 (z : Int) (t : Pnt) : Pnt := ⟨t.day, canon (val t.vl * z), canon (val t.fl * z)⟩
theorem pts_sc (z : Int) (ts : List Pnt) : pts (ts.map (scP1 z)) = timesP z (pts ts) := by
  unfold pts timesP
  rw [List.map_map, List.map_map]
  refine List.map_congr_left (fun t _ => ?_)
  show (t.day, val (canon (val t.vl * z)), val (canon (val t.fl * z))) = (t.day, val t.vl * z, val t.fl * z)
  rw [val_canon, val_canon]
theorem ret_sc {z : Int} {ts : List Pnt} (hz : z ≠ 0) (h0 : pntE ts = 0) (h1 : pntE (ts.map (scP1 z)) = 0) : retV (ts.map (scP1 z)) = retV ts := by
  rw [ret_form h0, ret_form h1, pts_sc, facs_times z hz]
theorem dtz_sc {z : Int} {ts : List Pnt} (hz : z ≠ 0) (h0 : pntE ts = 0) (h1 : pntE (ts.map (scP1 z)) = 0) : dtzV (ts.map (scP1 z)) = dtzV ts := by
  have e1 : dtzV (ts.map (scP1 z)) = _ := if_neg (fun h => h h1)
  have e0 : dtzV ts = _ := if_neg (fun h => h h0)
  rw [e1, e0, List.length_map, pts_sc, gainP_times, capP_times]
  have hzq : (z : Rat) ≠ 0 := intq_ne hz
  split
  · rfl
  · generalize capP (pts ts) = c
    generalize gainP (pts ts) = g
    by_cases hc : c = 0
    · rw [if_pos hc, if_pos (by rw [hc, Rat.zero_mul])]
    · rw [if_neg hc, if_neg (fun h => by rcases Rat.mul_eq_zero.1 h with h | h; exact hc h; exact hzq h)]
      congr 2
      have e : ((g * z : Int) : Rat) / (c * z) = (g : Rat) / c := by
        rw [Rat.intCast_mul]
        grind
      rw [e]
theorem sc_len {l : List UInt8} {t : List UInt8} (h1 : t.length ≤ 41) (h2 : l.length ≤ 13) : (canon (val t * val l)).length ≤ 60 := by
  have h3 := mul_lt10 (val_lt_of h1) (val_lt_of h2)
  rw [← Int.natAbs_mul] at h3
  exact Nat.le_trans (canon_len_le _ _ h3) (by decide)
theorem rLong13 (l : List UInt8) : Ret 38 #[.string ⟨l.toArray⟩] (.bool (decide (13 < l.length))) := fun w hG => by
  go_enter Tryz.func38, Tryz.ntmps38
  go_wp2
  go_ret
  exact ⟨by simp; omega, Below.refl _ _⟩
theorem cmpz_le {a b : Int} (h : ¬ b < a) : cmpZ a b ≤ 0 := by unfold cmpZ; split <;> (try split) <;> omega
theorem cmpz_gt {a b : Int} (h : b < a) : cmpZ a b = 1 := by unfold cmpZ; rw [if_neg (by omega), if_pos h]
theorem rowsQ_setVF {xs : List Pnt} {i : Nat} {x : Pnt} (a b : List UInt8) (h : xs[i]? = some x) : ((rowsQ xs).set (i * 3 + 1) (.string ⟨a.toArray⟩)).set (i * 3 + 2) (.string ⟨b.toArray⟩) = rowsQ (xs.set i ⟨x.day, a, b⟩) := by
  have h2 : (xs.set i ⟨x.day, a, x.fl⟩)[i]? = some ⟨x.day, a, x.fl⟩ := by rw [List.getElem?_set_self (List.getElem?_eq_some_iff.1 h).1]
  rw [rowsQ_setV a h, rowsQ_setF b h2, List.set_set]
set_option maxHeartbeats 16000000 in
set_option maxRecDepth 100000 in
theorem scale_law (A : Option Addr) (ts : List Pnt) (n c : Nat) (l : List UInt8) (w : World) (hG : Glob w) (hn : ts.length = n) (hnc : n ≤ c) (hnm : n ≤ 9223372036854775807) (h : PntAt w A ts) :
    Calls Tryz.prog 6 #[.slice A n c, .string ⟨l.toArray⟩] w fun e w' => e = .returned (.bool true) ∧ Below w.heap.size w w' := by
  have CW := Lib.hid wAwake46
  have CF := Lib.hid (rFine A ts n c w hG hn hnm h)
  have CL := Lib.hid (rLong13 l)
  have HI := Lib.hid h
  have HN := Lib.hid hn
  have hb := Below.refl w.heap.size w
  clear h hn
  go_enter Tryz.func6, Tryz.ntmps6
  go_wp2_with fail
  refine CF.out.mono ?_
  rintro e w2 ⟨b, rfl, hq, hb2⟩
  replace hb := bto hb hb2
  clear hb2 CF
  cases b
  · clear hq CL
    go_wp2_with fail
    ((with_reducible refine (CW.out.of hG hb).mono ?_); rintro e w99 ⟨rfl, hb99⟩)
    go_wp2
    go_ret
    exact ⟨rfl, bto hb hb99⟩
  obtain ⟨HQ0, g0⟩ := hq rfl
  clear hq
  go_wp2_with fail
  ((with_reducible refine (CL.out.of hG hb).mono ?_); rintro e w3 ⟨rfl, hb3⟩)
  replace hb := bto hb hb3
  clear hb3 CL
  by_cases g13 : 13 < l.length
  · have e1 : decide (13 < l.length) = true := decide_eq_true g13
    clear HQ0 g0
    go_wp2_with fail
    ((with_reducible refine (CW.out.of hG hb).mono ?_); rintro e w99 ⟨rfl, hb99⟩)
    go_wp2
    go_ret
    exact ⟨rfl, bto hb hb99⟩
  have e1 : decide (13 < l.length) = false := decide_eq_false g13
  rw [e1]
  by_cases gc : l = canon (val l)
  rotate_left
  · have C1 := Lib.hid (qCheckBig (l := l) (c := 1) (by omega) (if_neg gc))
    clear gc HQ0 g0 e1 g13
    go_wp2_with fail
    ((with_reducible refine (C1.out.of hG hb).mono ?_); rintro e w4 ⟨rfl, hb4⟩)
    replace hb := bto hb hb4
    clear hb4 C1
    go_wp2_with fail
    ((with_reducible refine (CW.out.of hG hb).mono ?_); rintro e w99 ⟨rfl, hb99⟩)
    go_wp2
    go_ret
    exact ⟨rfl, bto hb hb99⟩
  have C1 := Lib.hid (qCheckBig (l := l) (c := 0) (by omega) (if_pos gc))
  by_cases gz : 0 < val l
  rotate_left
  · obtain ⟨cz, hcz, hcz2⟩ : ∃ cz, cmpZ (val l) 0 = cz ∧ cz ≤ 0 := ⟨_, rfl, cmpz_le gz⟩
    have C2 := Lib.hid (qSign (l := l) (by omega) hcz)
    have e2 : decide (cz ≤ 0) = true := decide_eq_true hcz2
    clear gc HQ0 g0 e1 g13 hcz gz
    go_wp2_with fail
    ((with_reducible refine (C1.out.of hG hb).mono ?_); rintro e w4 ⟨rfl, hb4⟩)
    replace hb := bto hb hb4
    clear hb4 C1
    go_wp2_with fail
    ((with_reducible refine (C2.out.of hG hb).mono ?_); rintro e w5 ⟨rfl, hb5⟩)
    replace hb := bto hb hb5
    clear hb5 C2
    go_wp2_with fail
    ((with_reducible refine (CW.out.of hG hb).mono ?_); rintro e w99 ⟨rfl, hb99⟩)
    go_wp2
    go_ret
    exact ⟨rfl, bto hb hb99⟩
  have C2 := Lib.hid (qSign (l := l) (c := 1) (by omega) (cmpz_gt gz))
  obtain ⟨h1, hn12, hp, -, hok⟩ := HQ0.ok g0
  have CK := Lib.hid (fun (w' : World) (hb : Below w.heap.size w w') => cloneQ A ts n c w' HN.out (by omega) (by omega) (HI.out.below hb))
  have HOk := Lib.hid hok
  have HG0 := Lib.hid g0
  have HL13 := Lib.hid (Nat.le_of_not_lt g13)
  have HZ : Hid (val l ≠ 0) := by show _ ≠ _; omega
  clear hp hok gc g0 e1 g13 gz
  go_wp2_with fail
  ((with_reducible refine (C1.out.of hG hb).mono ?_); rintro e w4 ⟨rfl, hb4⟩)
  replace hb := bto hb hb4
  clear hb4 C1
  go_wp2_with fail
  ((with_reducible refine (C2.out.of hG hb).mono ?_); rintro e w5 ⟨rfl, hb5⟩)
  replace hb := bto hb hb5
  clear hb5 C2
  go_wp2_with fail
  refine (CK.out _ hb).mono ?_
  rintro e w6 ⟨g, cp, rfl, hcp, -, hwg, -, HR, hb6⟩
  have hgw : w.heap.size ≤ g := Nat.le_trans hb.size hwg
  replace hb := bto hb hb6
  clear hb6 CK hwg
  go_wp2_with fail
  go_loopw [37] (fun iv wr => ∃ k : Nat, k ≤ n ∧ iv = .int .i64 (k : Int) ∧ CRow wr g 50 (rowsQ (mixF (scP1 (val l)) ts k)) ∧ Below w.heap.size w wr) (fun iv _ => n - (intOf iv).toNat)
  case atStart => exact ⟨0, Nat.zero_le _, rfl, HR, hb⟩
  case round =>
    clear hb HR
    obtain ⟨k, hk, rfl, HR, hb⟩ := hrel
    by_cases hlt : k < n
    · obtain ⟨t, ht⟩ : ∃ t, ts[k]? = some t := ⟨_, List.getElem?_eq_getElem (by rw [HN.out]; omega)⟩
      have hx : (mixF (scP1 (val l)) ts k)[k]? = some t := mix_at ht
      have hot := HOk.out t (List.mem_of_getElem? ht)
      have lt1 := hot.lv
      have lt2 := hot.lf
      have HL' := HL13.out
      have C1 := Lib.hid (niMul46 (l := t.vl) (l' := l) (by omega) (by omega) rfl)
      have C2 := Lib.hid (niMul46 (l := t.fl) (l' := l) (by omega) (by omega) rfl)
      have r1 := HR.cell (rowsQ_at hx).2.1
      have r2 := HR.cell (rowsQ_at hx).2.2
      have hgl := HR.lt
      have HSet := Lib.hid (rowsQ_setVF (canon (val t.vl * val l)) (canon (val t.fl * val l)) hx)
      have HMix : Hid ((mixF (scP1 (val l)) ts k).set k ⟨t.day, canon (val t.vl * val l), canon (val t.fl * val l)⟩ = mixF (scP1 (val l)) ts (k + 1)) := mix_set ht
      have k1 : (k : Int) < (n : Int) := by omega
      clear ht hot lt1 lt2 HL'
      go_wp2_with fail
      refine wp_region_tail4N 20 (by simp) 2 3 _ _ (.slice (some ⟨g, 0, none⟩) n cp) (.int .i64 (k : Int)) (by kernel_rfl) (by kernel_rfl) (by kernel_rfl) (by kernel_rfl) (by kernel_rfl) (by kernel_rfl) (by kernel_rfl) (by kernel_rfl) (by kernel_rfl) rfl rfl (by decide) (by kernel_rfl) (by kernel_rfl) (by kernel_rfl) (by kernel_rfl) (fun w => by go_simp; first | done | with_reducible rfl) (fun w => by simp only [Act.put, List.setIfInBounds_toArray, List.set_cons_zero, List.set_cons_succ]; go_simp; first | done | with_reducible rfl) ?_
      simp only [List.take_succ_cons, List.take_zero, List.getElem_cons_succ, List.getElem_cons_zero]
      refine kept_val _ (fun _ => rfl) (fun ρ wz hw => by go_simp; first | done | with_reducible rfl) ?_
      simp only [Act.put, List.setIfInBounds_toArray, List.set_cons_zero, List.set_cons_succ, Nat.reduceAdd]
      refine kept_val _ (fun _ => rfl) (fun ρ wz hw => by go_simp; first | done | with_reducible rfl) ?_
      simp only [Act.put, List.setIfInBounds_toArray, List.set_cons_zero, List.set_cons_succ, Nat.reduceAdd]
      refine kept_val _ (fun _ => rfl) (fun ρ wz hw => by go_simp; first | done | with_reducible rfl) ?_
      simp only [Act.put, List.setIfInBounds_toArray, List.set_cons_zero, List.set_cons_succ, Nat.reduceAdd]
      refine kept_val _ (fun _ => rfl) (fun ρ wz hw => by go_simp; first | done | with_reducible rfl) ?_
      simp only [Act.put, List.setIfInBounds_toArray, List.set_cons_zero, List.set_cons_succ, Nat.reduceAdd]
      refine kept_val _ (fun _ => rfl) (fun ρ wz hw => by go_simp; first | done | with_reducible rfl) ?_
      simp only [Act.put, List.setIfInBounds_toArray, List.set_cons_zero, List.set_cons_succ, Nat.reduceAdd]
      refine kept_val _ (fun _ => rfl) (fun ρ wz hw => by go_simp; first | done | with_reducible rfl) ?_
      simp only [Act.put, List.setIfInBounds_toArray, List.set_cons_zero, List.set_cons_succ, Nat.reduceAdd]
      refine kept_val _ (fun _ => rfl) (fun ρ wz hw => by go_simp; first | done | with_reducible rfl) ?_
      simp only [Act.put, List.setIfInBounds_toArray, List.set_cons_zero, List.set_cons_succ, Nat.reduceAdd]
      refine kept_val _ (fun _ => rfl) (fun ρ wz hw => by go_simp; first | done | with_reducible rfl) ?_
      simp only [Act.put, List.setIfInBounds_toArray, List.set_cons_zero, List.set_cons_succ, Nat.reduceAdd]
      refine kept_val _ (fun _ => rfl) (fun ρ wz hw => by have q0 := (hw.cell (p := ⟨g, k * 3 + 1, none⟩) hgl).trans r1; go_simp; first | done | with_reducible rfl) ?_
      simp only [Act.put, List.setIfInBounds_toArray, List.set_cons_zero, List.set_cons_succ, Nat.reduceAdd]
      refine kept_val _ (fun _ => rfl) (fun ρ wz hw => by go_simp; first | done | with_reducible rfl) ?_
      simp only [Act.put, List.setIfInBounds_toArray, List.set_cons_zero, List.set_cons_succ, Nat.reduceAdd]
      refine kept_call _ _ _ (fun _ => rfl) (fun ρ wz hw => by go_simp; first | done | with_reducible rfl) (fun wz hw => C1.out.of hG (bto hb hw)) ?_
      simp only [Act.put, List.setIfInBounds_toArray, List.set_cons_zero, List.set_cons_succ, Nat.reduceAdd]
      refine kept_val _ (fun _ => rfl) (fun ρ wz hw => by go_simp; first | done | with_reducible rfl) ?_
      simp only [Act.put, List.setIfInBounds_toArray, List.set_cons_zero, List.set_cons_succ, Nat.reduceAdd]
      refine kept_val _ (fun _ => rfl) (fun ρ wz hw => by go_simp; first | done | with_reducible rfl) ?_
      simp only [Act.put, List.setIfInBounds_toArray, List.set_cons_zero, List.set_cons_succ, Nat.reduceAdd]
      refine kept_val _ (fun _ => rfl) (fun ρ wz hw => by go_simp; first | done | with_reducible rfl) ?_
      simp only [Act.put, List.setIfInBounds_toArray, List.set_cons_zero, List.set_cons_succ, Nat.reduceAdd]
      refine kept_val _ (fun _ => rfl) (fun ρ wz hw => by go_simp; first | done | with_reducible rfl) ?_
      simp only [Act.put, List.setIfInBounds_toArray, List.set_cons_zero, List.set_cons_succ, Nat.reduceAdd]
      refine kept_val _ (fun _ => rfl) (fun ρ wz hw => by have q0 := (hw.cell (p := ⟨g, k * 3 + 2, none⟩) hgl).trans r2; go_simp; first | done | with_reducible rfl) ?_
      simp only [Act.put, List.setIfInBounds_toArray, List.set_cons_zero, List.set_cons_succ, Nat.reduceAdd]
      refine kept_val _ (fun _ => rfl) (fun ρ wz hw => by go_simp; first | done | with_reducible rfl) ?_
      simp only [Act.put, List.setIfInBounds_toArray, List.set_cons_zero, List.set_cons_succ, Nat.reduceAdd]
      refine kept_call _ _ _ (fun _ => rfl) (fun ρ wz hw => by go_simp; first | done | with_reducible rfl) (fun wz hw => C2.out.of hG (bto hb hw)) ?_
      simp only [Act.put, List.setIfInBounds_toArray, List.set_cons_zero, List.set_cons_succ, Nat.reduceAdd]
      refine kept_val _ (fun _ => rfl) (fun ρ wz hw => by go_simp; first | done | with_reducible rfl) ?_
      simp only [Act.put, List.setIfInBounds_toArray, List.set_cons_zero, List.set_cons_succ, Nat.reduceAdd]
      refine kept_val _ (fun _ => rfl) (fun ρ wz hw => by go_simp; first | done | with_reducible rfl) ?_
      simp only [Act.put, List.setIfInBounds_toArray, List.set_cons_zero, List.set_cons_succ, Nat.reduceAdd]
      intro ρ w8 hF
      dsimp only
      have hbF := hF.below
      replace HR := HR.below hbF
      replace hb := bto hb hbF
      have u1 := HR.cell (rowsQ_at hx).2.1
      have u2 := HR.cell (rowsQ_at hx).2.2
      have f1 := HR.free (k * 3 + 1)
      have f2 := HR.free (k * 3 + 2)
      have HR2 := (HR.set (k * 3 + 1) (.string ⟨(canon (val t.vl * val l)).toArray⟩)).set (k * 3 + 2) (.string ⟨(canon (val t.fl * val l)).toArray⟩)
      rw [HSet.out, HMix.out] at HR2
      have hb3 := (hb.setCell (p := ⟨g, k * 3 + 1, none⟩) hgw (.string ⟨(canon (val t.vl * val l)).toArray⟩)).setCell (p := ⟨g, k * 3 + 2, none⟩) hgw (.string ⟨(canon (val t.fl * val l)).toArray⟩)
      have HR2' := Lib.hid HR2
      have hb3' := Lib.hid hb3
      clear hF hbF HR hb HR2 hb3 r1 r2 HSet HMix hx C1 C2
      refine ⟨_, _, .inr ⟨by go_simp; first | done | with_reducible rfl, rfl⟩, ?_⟩
      simp only [Act.put]
      refine ⟨_, _, .inl (by go_simp; first | done | exact ⟨rfl, rfl⟩ | with_reducible rfl), ?_⟩
      simp only [Act.put, List.setIfInBounds_toArray, List.set_cons_zero, List.set_cons_succ]
      refine ⟨_, _, .inl (by go_simp; first | done | exact ⟨rfl, rfl⟩ | with_reducible rfl), ?_⟩
      simp only [Act.put, List.setIfInBounds_toArray, List.set_cons_zero, List.set_cons_succ]
      refine ⟨_, _, .inr ⟨by go_simp; first | done | with_reducible rfl, rfl⟩, ?_⟩
      simp only [Act.put, SeqRun]
      go_wp2
      go_roundw
      case rel => exact ⟨k + 1, by omega, by go_num, HR2'.out, hb3'.out⟩
      case measure => simp [intOf]; omega
    obtain rfl : k = n := by omega
    rw [mix_all (by rw [HN.out]; omega)] at HR
    have hG3 := hG.below hb
    have hlen : (ts.map (scP1 (val l))).length = k := by rw [List.length_map, HN.out]
    have HQ2 : QL wr (some ⟨g, 0, none⟩) (ts.map (scP1 (val l))) k := ⟨hlen, by omega, .inl hn12, fun t ht => by
      obtain ⟨y, hy, rfl⟩ := List.mem_map.1 ht
      have hy2 := HOk.out y hy
      exact ⟨sc_len hy2.lv HL13.out, sc_len hy2.lf HL13.out⟩, crow_pnt HR⟩
    have HQ1 := HQ0.below hb
    have CK := Lib.hid (rwCheckB hG3 HQ2 cp)
    have hr := Below.refl wr.heap.size wr
    by_cases g2 : pntE (ts.map (scP1 (val l))) = 0
    rotate_left
    · have e3 : (pntE (ts.map (scP1 (val l))) != 0) = true := bneq' (intbne g2)
      generalize pntE (ts.map (scP1 (val l))) = E at *
      clear g2 HQ2 HQ1 HQ0 HR
      go_wp2_with fail
      ((with_reducible refine (CK.out.of hG3 hr).mono ?_); rintro e w9 ⟨rfl, hb9⟩)
      replace hb := bto hb hb9
      clear hb9 CK
      go_wp2_with fail
      ((with_reducible refine (CW.out.of hG hb).mono ?_); rintro e w99 ⟨rfl, hb99⟩)
      go_wp2
      go_ret
      exact ⟨rfl, bto hb hb99⟩
    rw [g2] at CK
    have hrf := ret_form HG0.out
    have hrs := ret_sc HZ.out HG0.out g2
    have hds := dtz_sc HZ.out HG0.out g2
    obtain ⟨da, db, dc, hdf⟩ := dtz_form ts
    have CR := Lib.hid (twReturn hG3 HQ1 c)
    have CR2 := Lib.hid (twReturn hG3 HQ2 cp)
    have CD := Lib.hid (twDietz hG3 HQ1 c hnc)
    have CD2 := Lib.hid (twDietz hG3 HQ2 cp hcp)
    rw [hrs] at CR2
    rw [hds] at CD2
    rw [hrf] at CR CR2
    rw [hdf] at CD CD2
    obtain ⟨rr, hrr⟩ : ∃ rr, rr = prodQ 1 (facs (pts ts)) - 1 := ⟨_, rfl⟩
    rw [← hrr] at CR CR2
    clear hrf hrs hds hdf hrr g2 HQ2 HQ1 HQ0 HR HOk
    go_wp2_with fail
    ((with_reducible refine (CK.out.of hG3 hr).mono ?_); rintro e w9 ⟨rfl, hb9⟩)
    replace hb := bto hb hb9
    replace hr := bto hr hb9
    clear hb9 CK
    go_wp2_with fail
    ((with_reducible refine (CR.out.of hG3 hr).mono ?_); rintro e w11 ⟨rfl, hb11⟩)
    have hbA := below_alloc w11 (.cells #[.string ⟨(fN rr).toArray⟩, .string ⟨(fD rr).toArray⟩] 32)
    have x7 := FBox.new w11 (.string ⟨(fN rr).toArray⟩) (.string ⟨(fD rr).toArray⟩) 32
    have hbC := bto hb11 hbA
    replace hb := bto hb hbC
    replace hr := bto hr hbC
    have hz11 := hb11.size
    (try simp only [World.size_alloc] at hz11)
    clear hb11 hbA hbC
    go_wp2_with fail
    ((with_reducible refine (CR2.out.of hG3 hr).mono ?_); rintro e w12 ⟨rfl, hb12⟩)
    have hbA := below_alloc w12 (.cells #[.string ⟨(fN rr).toArray⟩, .string ⟨(fD rr).toArray⟩] 32)
    have x9 := FBox.new w12 (.string ⟨(fN rr).toArray⟩) (.string ⟨(fD rr).toArray⟩) 32
    have hbC := bto hb12 hbA
    replace x7 := x7.below hbC
    replace hb := bto hb hbC
    replace hr := bto hr hbC
    have hz12 := hb12.size
    (try simp only [World.size_alloc] at hz12)
    clear hb12 hbA hbC
    go_wp2_with fail
    ((with_reducible refine (CD.out.of hG3 hr).mono ?_); rintro e w13 ⟨rfl, hb13⟩)
    have hbA := below_alloc w13 (.cells #[.string ⟨(da).toArray⟩, .string ⟨(db).toArray⟩] 32)
    have x11 := FBox.new w13 (.string ⟨(da).toArray⟩) (.string ⟨(db).toArray⟩) 32
    have hbC := bto hb13 hbA
    replace x7 := x7.below hbC
    replace x9 := x9.below hbC
    replace hb := bto hb hbC
    replace hr := bto hr hbC
    have hz13 := hb13.size
    (try simp only [World.size_alloc] at hz13)
    clear hb13 hbA hbC
    go_wp2_with fail
    ((with_reducible refine (CD2.out.of hG3 hr).mono ?_); rintro e w14 ⟨rfl, hb14⟩)
    have hbA := below_alloc w14 (.cells #[.string ⟨(da).toArray⟩, .string ⟨(db).toArray⟩] 32)
    have x13 := FBox.new w14 (.string ⟨(da).toArray⟩) (.string ⟨(db).toArray⟩) 32
    have hbC := bto hb14 hbA
    replace x7 := x7.below hbC
    replace x9 := x9.below hbC
    replace x11 := x11.below hbC
    replace hb := bto hb hbC
    replace hr := bto hr hbC
    have hz14 := hb14.size
    (try simp only [World.size_alloc] at hz14)
    clear hb14 hbA hbC
    have qx70 := x7.c0
    have qx71 := x7.c1
    have qx90 := x9.c0
    have qx91 := x9.c1
    have qx110 := x11.c0
    have qx111 := x11.c1
    have qx130 := x13.c0
    have qx131 := x13.c1
    go_wp2_with fail
    ((with_reducible refine (CW.out.of hG hb).mono ?_); rintro e w99 ⟨rfl, hb99⟩)
    go_wp2
    go_ret
    exact ⟨rfl, bto hb hb99⟩
end Go.Proofs.YtmjglcgdcclinaaGreatDoor
