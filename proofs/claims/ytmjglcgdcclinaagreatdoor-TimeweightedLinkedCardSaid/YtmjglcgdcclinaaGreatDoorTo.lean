/- trancheref46: Return, Dietz. -/
import Derived.Test.YtmjglcgdcclinaaGreatDoorTn
namespace Go.Proofs.YtmjglcgdcclinaaGreatDoor
open Go.RowKit Num
theorem frs_map (qs : List Rat) : (frs qs).map fsV = qs := by
  unfold frs
  rw [List.map_map]
  conv => rhs; rw [← List.map_id qs]
  exact List.map_congr_left (fun q _ => fv_frac q)
theorem frs_can (qs : List Rat) : (frs qs).all canB = true := by
  rw [List.all_eq_true]
  intro t ht
  obtain ⟨q, -, rfl⟩ := List.mem_map.1 ht
  exact decide_eq_true (by show fN q = fN (fv (fN q) (fD q)) ∧ fD q = fD (fv (fN q) (fD q)); rw [fv_frac]; exact ⟨rfl, rfl⟩)
theorem link_frs {qs : List Rat} (h : qs.length ≤ 400) : linkV (frs qs) = .tuple #[(Value.agg #[Value.string ⟨List.toArray (fN (prodQ 1 qs))⟩, Value.string ⟨List.toArray (fD (prodQ 1 qs))⟩]), .int .i64 0] := by
  unfold linkV
  rw [if_neg (by unfold frs; rw [List.length_map]; omega), if_pos (frs_can qs), frs_map]
theorem own_formF {w : World} {B : Nat} {v : Value} {qs : List Rat} (hown : w.ownsRow B 32 2 v qs.length (rowsF (frs qs))) : ∃ C cp, v = .slice C qs.length cp ∧ qs.length ≤ cp ∧ FsAt w C (frs qs) := by
  cases hq : qs with
  | nil =>
    subst hq
    rcases hown.2 with ⟨rfl, -⟩ | ⟨g, cap, cur, rfl, -⟩
    · exact ⟨none, 0, rfl, Nat.le_refl _, fun i t ht => by simp [frs] at ht⟩
    · exact ⟨_, _, rfl, Nat.zero_le _, fun i t ht => by simp [frs] at ht⟩
  | cons q r =>
    rw [← hq]
    have hl : 0 < qs.length := by rw [hq]; simp
    rcases hown.2 with ⟨-, h0⟩ | ⟨g, cap, cur, rfl, hg, hh, hcap, hrest⟩
    · omega
    · obtain ⟨g', hA, -, hr⟩ := own_crow hown (by rw [rowsF_len]; unfold frs; rw [List.length_map]) hl
      injection hA with hA
      injection hA with hA
      subst hA
      exact ⟨_, _, rfl, hcap, crow_fs hr⟩
theorem rwFactorsA {w : World} {A : Option Addr} {ts : List Pnt} {n : Nat} (hG : Glob w) (h : QL w A ts n) (c : Nat) :
    Calls Tryz.prog 25 #[.slice A n c] w fun e w' => ∃ B cp, e = .returned (.tuple #[.slice B (if pntE ts = 0 then facs (pts ts) else []).length cp, .int .i64 (if pntE ts = 0 then 0 else 1)]) ∧ (if pntE ts = 0 then facs (pts ts) else []).length ≤ cp ∧ FsAt w' B (frs (if pntE ts = 0 then facs (pts ts) else [])) ∧ Below w.heap.size w w' := by
  refine (rwFactors hG h c).mono ?_
  rintro e w' ⟨v, qs, rfl, rfl, hown, hb⟩
  obtain ⟨C, cp, rfl, h1, h2⟩ := own_formF hown
  exact ⟨C, cp, rfl, h1, h2, hb⟩
set_option maxHeartbeats 4000000 in
set_option maxRecDepth 100000 in
theorem rwReturn {w : World} {A : Option Addr} {ts : List Pnt} {n : Nat} (hG : Glob w) (h : QL w A ts n) (c : Nat) : RetB w 27 #[.slice A n c] (retV ts) := fun w' hbw => by
  replace hG := hG.below hbw
  replace h := h.below hbw
  clear hbw
  have x2 := FBox.new w' (.string ⟨#[]⟩) (.string ⟨#[]⟩) 32
  have z2 := heap_alloc_new w' (.cells #[.string ⟨#[]⟩, .string ⟨#[]⟩] 32)
  have hb := below_alloc w' (.cells #[.string ⟨#[]⟩, .string ⟨#[]⟩] 32)
  have C1 := Lib.hid (rwFactorsA (hG.below hb) (h.below hb) c)
  by_cases g : pntE ts = 0
  rotate_left
  · have HV : Hid (retV ts = .tuple #[.agg #[.string ⟨#[]⟩, .string ⟨#[]⟩], .int .i64 1]) := if_pos g
    rw [if_neg g, if_neg g] at C1
    clear g h z2
    go_enter Tryz.func27, Tryz.ntmps27
    go_wp2_with fail
    refine C1.out.mono ?_
    rintro e w1 ⟨B, cp, rfl, -, -, hb1⟩
    replace x2 := x2.below hb1
    replace hb := bto hb hb1
    clear hb1 C1
    have g0 := x2.c0
    have g1 := x2.c1
    have g2 := x2.f0
    have g3 := x2.f1
    go_wp2
    have hy := x2.set (.string ⟨#[]⟩) (.string ⟨#[]⟩)
    have d0 := hy.c0
    have d1 := hy.c1
    refine bodyPost_ret (v := .tuple #[.agg #[.string ⟨#[]⟩, .string ⟨#[]⟩], .int .i64 1]) (by simp [results, Tryz.results27, go_sem, d0, d1]) rfl ?_
    exact ⟨by rw [HV.out], below_set2 hb (Nat.le_refl _) _ _⟩
  have HV0 : Hid (retV ts = .tuple #[(Value.agg #[Value.string ⟨List.toArray (fN (prodQ 1 (facs (pts ts)) - 1))⟩, Value.string ⟨List.toArray (fD (prodQ 1 (facs (pts ts)) - 1))⟩]), .int .i64 0]) := if_neg (fun h => h g)
  rw [if_pos g, if_pos g] at C1
  obtain ⟨h1, h12, hp, -, hok⟩ := h.ok g
  have hB := facs_bd1 hok hp (by rw [h.len]; exact h12)
  have hfl : (facs (pts ts)).length ≤ 12 := by rw [facs_len, pts_len, h.len]; omega
  have hbd := facs_bd hp hok
  generalize facs (pts ts) = qs at *
  have hstr : ∀ t ∈ frs qs, t.1.length ≤ 60 ∧ t.2.length ≤ 60 := fun t ht => by
    obtain ⟨q, hq, rfl⟩ := List.mem_map.1 ht
    have := bd_len (hbd q hq)
    exact ⟨by show (fN q).length ≤ 60; omega, by show (fD q).length ≤ 60; omega⟩
  have hlk := link_frs (qs := qs) (by omega)
  have HST := Lib.hid hstr
  have C3 := Lib.hid (rwRatio (a := 1) (b := 1) (by decide) (by decide) (by decide) (show _ = (1 : Rat) by decide +kernel))
  have hbl := bd_len hB
  have C4 := Lib.hid (sSub (l := fN (prodQ 1 qs)) (l' := fD (prodQ 1 qs)) (k := fN (1 : Rat)) (k' := fD (1 : Rat)) (by omega) (by omega) (by decide +kernel) (by decide +kernel) (by rw [fv_frac]; decide +kernel) (by rw [fv_frac]; decide +kernel) (show _ = prodQ 1 qs - 1 by rw [fv_frac, fv_frac]))
  have HLK := Lib.hid hlk
  obtain ⟨y, hy⟩ : ∃ y, y = prodQ 1 qs - 1 := ⟨_, rfl⟩
  have HV := HV0
  rw [← hy] at C4 HV
  obtain ⟨x, hx⟩ : ∃ x, x = prodQ 1 qs := ⟨_, rfl⟩
  rw [← hx] at C4 HLK
  generalize (1 : Rat) = one at C3 C4
  clear g h h1 h12 hp hok hB hbd hstr hlk hbl HV0 hy hx x2
  go_enter Tryz.func27, Tryz.ntmps27
  go_wp2_with fail
  refine C1.out.mono ?_
  rintro e w1 ⟨B, cp, rfl, hcp, hfs, hb1⟩
  have CL := Lib.hid (rwLink (w := w1) (hG.below (bto hb hb1)) ⟨by unfold frs; rw [List.length_map], by omega, .inl hfl, HST.out, hfs⟩ cp)
  rw [HLK.out] at CL
  have z2l := (Array.getElem?_eq_some_iff.1 z2).1
  replace z2 := (hb1.block _ z2l).trans z2
  replace hb := bto hb hb1
  clear hb1 C1 hfs z2l
  go_wp2_with fail
  ((with_reducible refine (CL.out.of (hG.below hb) (Below.refl _ _)).mono ?_); rintro e w3 ⟨rfl, hb3⟩)
  have hbA := below_alloc w3 (.cells #[.string ⟨(fN (x)).toArray⟩, .string ⟨(fD (x)).toArray⟩] 32)
  have x6 := Blk.new w3 #[.string ⟨(fN x).toArray⟩, .string ⟨(fD x).toArray⟩] 32
  have z2l := (Array.getElem?_eq_some_iff.1 z2).1
  have hz3 := hb3.size
  have hbC := bto hb3 hbA
  replace z2 := (hbC.block _ z2l).trans z2
  replace hb := bto hb hbC
  have hx6 : ¬ (w3.heap.size = w'.heap.size) := by omega
  have hX : ∀ k, k = w'.heap.size → w'.heap.size ≤ k := by rintro k rfl; exact Nat.le_refl _
  clear hb3 hbA hbC CL z2l hz3
  go_wp2_with fail
  refine wp_region_kept_one 20 w'.heap.size 2 _ (by kernel_rfl) (by kernel_rfl) (by decide) z2 rfl ?_
  simp only [Act.put, List.setIfInBounds_toArray, List.set_cons_zero, List.set_cons_succ]
  refine kept_val _ (fun _ => rfl) (fun ρ wz hw => by have q0 : wz.cell? ⟨w3.heap.size, 0, none⟩ = some (.string ⟨(fN x).toArray⟩) := (x6.keepX hw hx6).c 0; have q1 : wz.cell? ⟨w3.heap.size, 1, none⟩ = some (.string ⟨(fD x).toArray⟩) := (x6.keepX hw hx6).c 1; go_simp; first | done | with_reducible rfl) ?_
  simp only [Act.put, List.setIfInBounds_toArray, List.set_cons_zero, List.set_cons_succ, Nat.reduceAdd]
  refine kept_call _ _ _ (fun _ => rfl) (fun ρ wz hw => by go_simp; first | done | with_reducible rfl) (fun wz hw => C3.out.of hG (hw.lower hb hX)) ?_
  simp only [Act.put, List.setIfInBounds_toArray, List.set_cons_zero, List.set_cons_succ, Nat.reduceAdd]
  refine kept_call _ _ _ (fun _ => rfl) (fun ρ wz hw => by go_simp; first | done | with_reducible rfl) (fun wz hw => C4.out.of hG (hw.lower hb hX)) ?_
  simp only [Act.put, List.setIfInBounds_toArray, List.set_cons_zero, List.set_cons_succ, Nat.reduceAdd]
  refine kept_putK 20 _ _ _ _ _ rfl rfl (fun _ => rfl) (fun ρ wz hw q0 q1 q2 q3 => by go_simp; first | done | with_reducible rfl) ?_
  simp only [Act.put, Nat.reduceAdd]
  refine kept_val _ (fun _ => rfl) (fun ρ wz hw => by go_simp; first | done | with_reducible rfl) ?_
  simp only [Act.put, List.setIfInBounds_toArray, List.set_cons_zero, List.set_cons_succ, Nat.reduceAdd]
  refine kept_endX (fun ρ w8 hF => ?_)
  have hb8 := hF.below.lower hb hX
  have t2 := FBox.ofB (hF.box 20 _ _ rfl).2
  (try dsimp only)
  generalize ρ 20 = c2 at *
  clear hF
  have d0 := t2.c0
  have d1 := t2.c1
  go_wp2
  refine bodyPost_ret (v := .tuple #[(Value.agg #[Value.string ⟨List.toArray (fN y)⟩, Value.string ⟨List.toArray (fD y)⟩]), .int .i64 0]) (by simp [results, Tryz.results27, go_sem, d0, d1]) rfl ?_
  exact ⟨by rw [HV.out], hb8⟩
theorem divInt_one' (z : Int) : Rat.divInt z 1 = ((z : Int) : Rat) := by rw [divInt_div]; have o : ((1 : Int) : Rat) = 1 := rfl; rw [o]; grind
theorem part_mul (f d e : Int) : ((f : Int) : Rat) * Rat.divInt d e = Rat.divInt (f * d) e := by rw [divInt_div, divInt_div, Rat.intCast_mul, Rat.div_def, Rat.div_def]; grind
set_option maxHeartbeats 8000000 in
set_option maxRecDepth 100000 in
theorem rwDietz {w : World} {A : Option Addr} {ts : List Pnt} {n : Nat} (hG : Glob w) (h : QL w A ts n) (c : Nat) : RetB w 29 #[.slice A n c] (dtzV ts) := fun w' hbw => by
  replace hG := hG.below hbw
  replace h := h.below hbw
  clear hbw
  have C1 := Lib.hid (rwCheckB hG h c)
  have x2 := FBox.new w' (.string ⟨#[]⟩) (.string ⟨#[]⟩) 32
  have hb := below_alloc w' (.cells #[.string ⟨#[]⟩, .string ⟨#[]⟩] 32)
  by_cases g : pntE ts = 0
  rotate_left
  · have HV : Hid (dtzV ts = .tuple #[.agg #[.string ⟨#[]⟩, .string ⟨#[]⟩], .int .i64 1]) := if_pos g
    have e1 : (pntE ts != 0) = true := bneq' (intbne g)
    generalize pntE ts = E at *
    clear g h
    go_enter Tryz.func29, Tryz.ntmps29
    go_wp2_with fail
    ((with_reducible refine (C1.out.of hG hb).mono ?_); rintro e w1 ⟨rfl, hb1⟩)
    replace x2 := x2.below hb1
    replace hb := bto hb hb1
    clear hb1
    have g0 := x2.c0
    have g1 := x2.c1
    have g2 := x2.f0
    have g3 := x2.f1
    go_wp2
    have hy := x2.set (.string ⟨#[]⟩) (.string ⟨#[]⟩)
    have d0 := hy.c0
    have d1 := hy.c1
    refine bodyPost_ret (v := .tuple #[.agg #[.string ⟨#[]⟩, .string ⟨#[]⟩], .int .i64 1]) (by simp [results, Tryz.results29, go_sem, d0, d1]) rfl ?_
    exact ⟨by rw [HV.out], below_set2 hb (Nat.le_refl _) _ _⟩
  obtain ⟨h1, h12, hp, hup, hok⟩ := h.ok g
  rw [g] at C1
  by_cases gn : n = 1
  · have HV : Hid (dtzV ts = .tuple #[.agg #[.string ⟨#[]⟩, .string ⟨#[]⟩], .int .i64 11]) := by show _ = _; unfold dtzV; rw [if_neg (fun h => h g), if_pos (h.len.trans gn)]
    subst gn
    clear g h hp hup hok h1 h12
    go_enter Tryz.func29, Tryz.ntmps29
    go_wp2_with fail
    ((with_reducible refine (C1.out.of hG hb).mono ?_); rintro e w1 ⟨rfl, hb1⟩)
    replace x2 := x2.below hb1
    replace hb := bto hb hb1
    clear hb1
    have g0 := x2.c0
    have g1 := x2.c1
    have g2 := x2.f0
    have g3 := x2.f1
    go_wp2
    have hy := x2.set (.string ⟨#[]⟩) (.string ⟨#[]⟩)
    have d0 := hy.c0
    have d1 := hy.c1
    refine bodyPost_ret (v := .tuple #[.agg #[.string ⟨#[]⟩, .string ⟨#[]⟩], .int .i64 11]) (by simp [results, Tryz.results29, go_sem, d0, d1]) rfl ?_
    exact ⟨by rw [HV.out], below_set2 hb (Nat.le_refl _) _ _⟩
  have HV0 : Hid (dtzV ts = if capP (pts ts) = 0 then .tuple #[.agg #[.string ⟨#[]⟩, .string ⟨#[]⟩], .int .i64 10] else .tuple #[(Value.agg #[Value.string ⟨List.toArray (fN ((gainP (pts ts) : Rat) / capP (pts ts)))⟩, Value.string ⟨List.toArray (fD ((gainP (pts ts) : Rat) / capP (pts ts)))⟩]), .int .i64 0]) := by show _ = _; unfold dtzV; rw [if_neg (fun h => h g), if_neg (by rw [h.len]; exact gn)]
  obtain ⟨m, rfl⟩ : ∃ m, n = m + 1 := ⟨n - 1, by omega⟩
  have hm : 1 ≤ m := by omega
  obtain ⟨a, ha⟩ : ∃ a, ts[0]? = some a := ⟨_, List.getElem?_eq_getElem (by rw [h.len]; omega)⟩
  obtain ⟨z, hz⟩ : ∃ z, ts[m]? = some z := ⟨_, List.getElem?_eq_getElem (by rw [h.len]; omega)⟩
  obtain ⟨eg, ec⟩ := gainP_at h.len ha hz
  rw [eg, ec] at HV0
  have oa := hok a (List.mem_of_getElem? ha)
  have oz := hok z (List.mem_of_getElem? hz)
  have hdd := upD_days hup ha hz hm
  have hda := oa.day
  have hdz := oz.day
  have la := oa.lv
  have lz := oz.lv
  obtain ⟨b, o, rfl, hbs', p0, p1, p2⟩ := h.mem 0 a ha
  obtain ⟨b', o', hA', -, r0, r1, r2⟩ := h.mem m z hz
  obtain ⟨rfl, rfl⟩ : b = b' ∧ o = o' := by injection hA' with hA'; injection hA' with h1 h2; exact ⟨h1, h2⟩
  rw [Nat.zero_mul, Nat.add_zero] at p0 p1 p2
  have hg42 : (val z.vl - val a.vl).natAbs < 10 ^ 42 := by
    have a1 := val_lt_of la
    have a2 := val_lt_of lz
    have a4 : (10 : Nat) ^ 41 + 10 ^ 41 ≤ 10 ^ 42 := by decide
    omega
  have hd6 : (z.day - a.day).natAbs < 10 ^ 6 := by omega
  have hd0 : z.day - a.day ≠ 0 := by omega
  have hc42 : Bd 42 ((val a.vl : Int) : Rat) := bd_int (Nat.lt_of_lt_of_le (val_lt_of la) (by decide)) (by decide)
  have HGB : Hid (∀ k, k ≤ m → Bd 60 ((gainK ts (val z.vl - val a.vl) k : Int) : Rat)) := fun k hk => bd_int (Nat.lt_of_lt_of_le (gainK_bd hok hg42 k (by rw [h.len]; omega)) (Nat.pow_le_pow_right (by decide) (by omega))) (by decide)
  have HCB : Hid (∀ k, k ≤ m → Bd 700 (capK ts z.day (z.day - a.day) ((val a.vl : Int) : Rat) k)) := fun k hk => bd_mono (capK_bd hok hc42 (by omega) hd6 hd0 k (by rw [h.len]; omega)) (by omega)
  have HQ := Lib.hid h
  have HA := Lib.hid ha
  have HZ := Lib.hid hz
  have HDt : Hid (∀ t ∈ ts, -25567 ≤ t.day ∧ t.day ≤ 84005) := fun t ht => (hok t ht).day
  have hl0 : (canon (val z.vl - val a.vl)).length ≤ 60 := Nat.le_trans (canon_len_le _ 42 hg42) (by decide)
  have C3 := Lib.hid (qSub (l := z.vl) (l' := a.vl) (by omega) (by omega) rfl)
  have C4 := Lib.hid (sOf (l := canon (val z.vl - val a.vl)) (by omega) (show _ = ((gainK ts (val z.vl - val a.vl) 0 : Int) : Rat) by rw [val_canon, divInt_one']; rfl))
  have C5 := Lib.hid (sOf (l := a.vl) (by omega) (show _ = capK ts z.day (z.day - a.day) ((val a.vl : Int) : Rat) 0 by rw [divInt_one']; rfl))
  have HOf : Hid (∀ (k : Nat) (t : Pnt), ts[k]? = some t → Ret 84 #[.string ⟨t.fl.toArray⟩] (Value.agg #[Value.string ⟨List.toArray (fN ((val t.fl : Rat)))⟩, Value.string ⟨List.toArray (fD ((val t.fl : Rat)))⟩])) := fun k t ht => sOf (by have := (hok t (List.mem_of_getElem? ht)).lf; omega) (divInt_one' _)
  have HFB : Hid (∀ (k : Nat) (t : Pnt), ts[k]? = some t → Bd 42 ((val t.fl : Int) : Rat)) := fun k t ht => bd_int (Nat.lt_of_lt_of_le (val_lt_of (hok t (List.mem_of_getElem? ht)).lf) (by decide)) (by decide)
  have HSb : Hid (∀ (k : Nat) (t : Pnt), ts[k]? = some t → k < m → Ret 78 #[(Value.agg #[Value.string ⟨List.toArray (fN (((gainK ts (val z.vl - val a.vl) k : Int) : Rat)))⟩, Value.string ⟨List.toArray (fD (((gainK ts (val z.vl - val a.vl) k : Int) : Rat)))⟩]), (Value.agg #[Value.string ⟨List.toArray (fN ((val t.fl : Rat)))⟩, Value.string ⟨List.toArray (fD ((val t.fl : Rat)))⟩])] (Value.agg #[Value.string ⟨List.toArray (fN (((gainK ts (val z.vl - val a.vl) (k + 1) : Int) : Rat)))⟩, Value.string ⟨List.toArray (fD (((gainK ts (val z.vl - val a.vl) (k + 1) : Int) : Rat)))⟩])) := fun k t ht hk => by
    have b1 := bd_len (HGB.out k (by omega))
    have b2 := bd_len (HFB.out k t ht)
    have b3 := bd_len (bd_neg (HFB.out k t ht))
    exact sSub (by omega) (by omega) (by omega) (by omega) (by rw [fv_frac]; omega) (by rw [fv_frac]; omega) (by rw [fv_frac, fv_frac, gainK_step ht, Rat.intCast_sub])
  have HRt : Hid (∀ (k : Nat) (t : Pnt), ts[k]? = some t → Ret 79 #[.int .i64 (z.day - t.day), .int .i64 (z.day - a.day)] (Value.agg #[Value.string ⟨List.toArray (fN (Rat.divInt (z.day - t.day) (z.day - a.day)))⟩, Value.string ⟨List.toArray (fD (Rat.divInt (z.day - t.day) (z.day - a.day)))⟩])) := fun k t ht => by
    have := (hok t (List.mem_of_getElem? ht)).day
    exact rwRatio (Nat.lt_of_lt_of_le (show (z.day - t.day).natAbs < 10 ^ 6 by omega) (by decide)) (Nat.lt_of_lt_of_le hd6 (by decide)) hd0 rfl
  have HMl : Hid (∀ (k : Nat) (t : Pnt), ts[k]? = some t → Ret 87 #[(Value.agg #[Value.string ⟨List.toArray (fN ((val t.fl : Rat)))⟩, Value.string ⟨List.toArray (fD ((val t.fl : Rat)))⟩]), (Value.agg #[Value.string ⟨List.toArray (fN (Rat.divInt (z.day - t.day) (z.day - a.day)))⟩, Value.string ⟨List.toArray (fD (Rat.divInt (z.day - t.day) (z.day - a.day)))⟩])] (Value.agg #[Value.string ⟨List.toArray (fN (Rat.divInt (val t.fl * (z.day - t.day)) (z.day - a.day)))⟩, Value.string ⟨List.toArray (fD (Rat.divInt (val t.fl * (z.day - t.day)) (z.day - a.day)))⟩])) := fun k t ht => by
    have := (hok t (List.mem_of_getElem? ht)).day
    have b2 := bd_len (HFB.out k t ht)
    have b3 := bd_len (bd_divInt (k := 6) (show (z.day - t.day).natAbs < 10 ^ 6 by omega) hd6 hd0)
    exact sMul (by omega) (by omega) (by omega) (by omega) (by rw [fv_frac, fv_frac, part_mul])
  have HAd : Hid (∀ (k : Nat) (t : Pnt), ts[k]? = some t → k < m → Ret 86 #[(Value.agg #[Value.string ⟨List.toArray (fN (capK ts z.day (z.day - a.day) ((val a.vl : Int) : Rat) k))⟩, Value.string ⟨List.toArray (fD (capK ts z.day (z.day - a.day) ((val a.vl : Int) : Rat) k))⟩]), (Value.agg #[Value.string ⟨List.toArray (fN (Rat.divInt (val t.fl * (z.day - t.day)) (z.day - a.day)))⟩, Value.string ⟨List.toArray (fD (Rat.divInt (val t.fl * (z.day - t.day)) (z.day - a.day)))⟩])] (Value.agg #[Value.string ⟨List.toArray (fN (capK ts z.day (z.day - a.day) ((val a.vl : Int) : Rat) (k + 1)))⟩, Value.string ⟨List.toArray (fD (capK ts z.day (z.day - a.day) ((val a.vl : Int) : Rat) (k + 1)))⟩])) := fun k t ht hk => by
    have ho := hok t (List.mem_of_getElem? ht)
    have := ho.day
    have b2 := bd_len (HCB.out k (by omega))
    have b3 := bd_len (part_bd (f := val t.fl) (z := z.day) (a := t.day) (d := z.day - a.day) (val_lt_of ho.lf) (by omega) hd6 hd0)
    exact sAdd (by omega) (by omega) (by omega) (by omega) (by rw [fv_frac, fv_frac, capK_step ht])
  have b4 := bd_len (HGB.out m (Nat.le_refl _))
  have b5 := bd_len (HCB.out m (Nat.le_refl _))
  have C7a : Hid (capK ts z.day (z.day - a.day) ((val a.vl : Int) : Rat) m ≠ 0 → Ret 88 #[(Value.agg #[Value.string ⟨List.toArray (fN (((gainK ts (val z.vl - val a.vl) m : Int) : Rat)))⟩, Value.string ⟨List.toArray (fD (((gainK ts (val z.vl - val a.vl) m : Int) : Rat)))⟩]), (Value.agg #[Value.string ⟨List.toArray (fN (capK ts z.day (z.day - a.day) ((val a.vl : Int) : Rat) m))⟩, Value.string ⟨List.toArray (fD (capK ts z.day (z.day - a.day) ((val a.vl : Int) : Rat) m))⟩])] (.tuple #[(Value.agg #[Value.string ⟨List.toArray (fN (((gainK ts (val z.vl - val a.vl) m : Int) : Rat) / capK ts z.day (z.day - a.day) ((val a.vl : Int) : Rat) m))⟩, Value.string ⟨List.toArray (fD (((gainK ts (val z.vl - val a.vl) m : Int) : Rat) / capK ts z.day (z.day - a.day) ((val a.vl : Int) : Rat) m))⟩]), .int .i64 0])) := fun h0 => sQuo (by omega) (by omega) (by omega) (by omega) (by rw [fv_frac]; exact h0) (by rw [fv_frac, fv_frac])
  have C7b : Hid (capK ts z.day (z.day - a.day) ((val a.vl : Int) : Rat) m = 0 → Ret 88 #[(Value.agg #[Value.string ⟨List.toArray (fN (((gainK ts (val z.vl - val a.vl) m : Int) : Rat)))⟩, Value.string ⟨List.toArray (fD (((gainK ts (val z.vl - val a.vl) m : Int) : Rat)))⟩]), (Value.agg #[Value.string ⟨List.toArray (fN (capK ts z.day (z.day - a.day) ((val a.vl : Int) : Rat) m))⟩, Value.string ⟨List.toArray (fD (capK ts z.day (z.day - a.day) ((val a.vl : Int) : Rat) m))⟩])] (.tuple #[.agg #[.string ⟨#[]⟩, .string ⟨#[]⟩], .int .i64 10])) := fun h0 => sQuo0 (by omega) (by omega) (by omega) (by omega) (by rw [fv_frac]; exact h0)
  have hwz : IntKind.i64.wrap (z.day - a.day) = z.day - a.day := Go.IntWalk.i64_in _ (by omega)
  have hbs : b < w'.heap.size := hbs'
  generalize capK ts z.day (z.day - a.day) ((val a.vl : Int) : Rat) = ck at *
  generalize gainK ts (val z.vl - val a.vl) = gk at *
  have hmn : m < m + 1 := by omega
  have hwm : IntKind.i64.wrap (m : Int) = (m : Int) := Go.IntWalk.i64_in _ (by omega)
  have hwm2 : IntKind.i64.wrap ((m : Int) + 1 - 1) = (m : Int) := by rw [Go.IntWalk.i64_in _ (by omega)]; omega
  have hlm : (m : Int) < (m : Int) + 1 := by omega
  have hm0 : 0 ≤ (m : Int) := by omega
  have e2 : ((m : Int) == 0) = false := intbne (by omega)
  clear g h hp hup hok h1 gn ha hz eg ec oa oz hA' hbs' hg42 hc42 hd6 hd0 HGB HCB HFB la lz hdd hl0 b4 b5
  go_enter Tryz.func29, Tryz.ntmps29
  go_wp2_with fail
  ((with_reducible refine (C1.out.of hG hb).mono ?_); rintro e w1 ⟨rfl, hb1⟩)
  have hbs1 : b < w1.heap.size := Nat.lt_of_lt_of_le hbs (bto hb hb1).size
  replace p0 := ((bto hb hb1).cell (p := ⟨b, o, none⟩) hbs).trans p0
  replace p1 := ((bto hb hb1).cell (p := ⟨b, o + 1, none⟩) hbs).trans p1
  replace r0 := ((bto hb hb1).cell (p := ⟨b, o + m * 3, none⟩) hbs).trans r0
  replace r1 := ((bto hb hb1).cell (p := ⟨b, o + m * 3 + 1, none⟩) hbs).trans r1
  replace hbs := hbs1
  replace x2 := x2.below hb1
  replace hb := bto hb hb1
  clear hb1 hbs1 C1 p2 r2
  go_wp2_with fail
  refine wp_region_kept (by kernel_rfl) (by kernel_rfl) ?_
  refine kept_val _ (fun _ => rfl) (fun ρ wz hw => by go_simp; first | done | with_reducible rfl) ?_
  simp only [Act.put, List.setIfInBounds_toArray, List.set_cons_zero, List.set_cons_succ, Nat.reduceAdd]
  refine kept_val _ (fun _ => rfl) (fun ρ wz hw => by go_simp; first | done | with_reducible rfl) ?_
  simp only [Act.put, List.setIfInBounds_toArray, List.set_cons_zero, List.set_cons_succ, Nat.reduceAdd]
  refine kept_val _ (fun _ => rfl) (fun ρ wz hw => by go_simp; first | done | with_reducible rfl) ?_
  simp only [Act.put, List.setIfInBounds_toArray, List.set_cons_zero, List.set_cons_succ, Nat.reduceAdd]
  refine kept_val _ (fun _ => rfl) (fun ρ wz hw => by go_simp; first | done | with_reducible rfl) ?_
  simp only [Act.put, List.setIfInBounds_toArray, List.set_cons_zero, List.set_cons_succ, Nat.reduceAdd]
  refine kept_val _ (fun _ => rfl) (fun ρ wz hw => by have q0 := (hw.cell (p := ⟨b, o + m * 3 + 1, none⟩) hbs).trans r1; go_simp; first | done | with_reducible rfl) ?_
  simp only [Act.put, List.setIfInBounds_toArray, List.set_cons_zero, List.set_cons_succ, Nat.reduceAdd]
  refine kept_val _ (fun _ => rfl) (fun ρ wz hw => by go_simp; first | done | with_reducible rfl) ?_
  simp only [Act.put, List.setIfInBounds_toArray, List.set_cons_zero, List.set_cons_succ, Nat.reduceAdd]
  refine kept_val _ (fun _ => rfl) (fun ρ wz hw => by go_simp; first | done | with_reducible rfl) ?_
  simp only [Act.put, List.setIfInBounds_toArray, List.set_cons_zero, List.set_cons_succ, Nat.reduceAdd]
  refine kept_val _ (fun _ => rfl) (fun ρ wz hw => by go_simp; first | done | with_reducible rfl) ?_
  simp only [Act.put, List.setIfInBounds_toArray, List.set_cons_zero, List.set_cons_succ, Nat.reduceAdd]
  refine kept_val _ (fun _ => rfl) (fun ρ wz hw => by have q0 := (hw.cell (p := ⟨b, o + 1, none⟩) hbs).trans p1; go_simp; first | done | with_reducible rfl) ?_
  simp only [Act.put, List.setIfInBounds_toArray, List.set_cons_zero, List.set_cons_succ, Nat.reduceAdd]
  refine kept_call _ _ _ (fun _ => rfl) (fun ρ wz hw => by go_simp; first | done | with_reducible rfl) (fun wz hw => C3.out.of hG (bto hb hw)) ?_
  simp only [Act.put, List.setIfInBounds_toArray, List.set_cons_zero, List.set_cons_succ, Nat.reduceAdd]
  refine kept_call _ _ _ (fun _ => rfl) (fun ρ wz hw => by go_simp; first | done | with_reducible rfl) (fun wz hw => C4.out.of hG (bto hb hw)) ?_
  simp only [Act.put, List.setIfInBounds_toArray, List.set_cons_zero, List.set_cons_succ, Nat.reduceAdd]
  refine kept_box (fun b => .pointer (some ⟨b, 0, none⟩)) _ rfl (fun _ => rfl) (fun ρ wz hw => by go_simp; first | done | with_reducible rfl) ?_
  simp only [Act.put, List.setIfInBounds_toArray, List.set_cons_zero, List.set_cons_succ, Nat.reduceAdd]
  refine kept_put2 11 _ 5 _ _ _ _ _ rfl rfl rfl (by decide) (fun _ => rfl) (fun ρ wz hw q0 q1 q2 q3 => by go_simp; first | done | with_reducible rfl) ?_
  simp only [Act.put, Nat.reduceAdd]
  refine kept_end (fun ρ w5 hF => ?_)
  have x5 := FBox.ofB (hF.box 11 _ _ rfl).2
  have hbF := hF.below
  have hg5 := (hF.box 11 _ _ rfl).1
  (try dsimp only)
  generalize ρ 11 = b5 at *
  have x2l := x2.lt
  replace p0 := (hbF.cell (p := ⟨b, o, none⟩) hbs).trans p0
  replace p1 := (hbF.cell (p := ⟨b, o + 1, none⟩) hbs).trans p1
  replace r0 := (hbF.cell (p := ⟨b, o + m * 3, none⟩) hbs).trans r0
  replace hbs := Nat.lt_of_lt_of_le hbs hbF.size
  replace x2 := x2.below hbF
  replace hb := bto hb hbF
  clear hF hbF C3 C4 r1
  go_wp2_with fail
  ((with_reducible refine (C5.out.of hG hb).mono ?_); rintro e w6 ⟨rfl, hb6⟩)
  have hbA := below_alloc w6 (.cells #[.string ⟨(fN (ck 0)).toArray⟩, .string ⟨(fD (ck 0)).toArray⟩] 32)
  have x6 := FBox.new w6 (.string ⟨(fN (ck 0)).toArray⟩) (.string ⟨(fD (ck 0)).toArray⟩) 32
  have x5l := x5.lt
  have hz6 := hb6.size
  have hbC := bto hb6 hbA
  replace x2 := x2.below hbC
  replace x5 := x5.below hbC
  replace hb := bto hb hbC
  obtain ⟨b6, hb6e⟩ : ∃ b6, b6 = w6.heap.size := ⟨_, rfl⟩
  rw [← hb6e] at x6
  have n25 : w'.heap.size ≠ b5 := by omega
  have n26 : w'.heap.size ≠ b6 := by omega
  have n56 : b5 ≠ b6 := by omega
  have n5 : w'.heap.size ≤ b5 := by omega
  have n6 : w'.heap.size ≤ b6 := by omega
  clear hb6 hbA hbC C5 p0 p1 r0 hbs x2l hg5 x5l hz6
  go_wp2_with fail
  rw [← hb6e]
  clear hb6e
  go_loopw [7] (fun iv wr => ∃ k : Nat, k ≤ m ∧ iv = .int .i64 (k : Int) ∧ FBox wr b5 (.string ⟨(fN (((gk (k) : Int) : Rat))).toArray⟩) (.string ⟨(fD (((gk (k) : Int) : Rat))).toArray⟩) ∧ FBox wr b6 (.string ⟨(fN (ck k)).toArray⟩) (.string ⟨(fD (ck k)).toArray⟩) ∧ FBox wr w'.heap.size (.string ⟨#[]⟩) (.string ⟨#[]⟩) ∧ Below w'.heap.size w' wr) (fun iv _ => m - (intOf iv).toNat)
  case atStart => exact ⟨0, Nat.zero_le _, rfl, x5, x6, x2, hb⟩
  case round =>
    clear hb x2 x5 x6
    obtain ⟨k, hk, rfl, x5, x6, x2, hb⟩ := hrel
    by_cases hlk : k < m
    · obtain ⟨t, ht⟩ : ∃ t, ts[k]? = some t := ⟨_, List.getElem?_eq_getElem (by rw [HQ.out.len]; omega)⟩
      obtain ⟨b', o', hA', hbs, u0, u1, u2⟩ := (HQ.out.mem.below hb) k t ht
      obtain ⟨rfl, rfl⟩ : b = b' ∧ o = o' := by injection hA' with hA'; injection hA' with h1 h2; exact ⟨h1, h2⟩
      have D1 := Lib.hid (HOf.out k t ht)
      have D2 := Lib.hid (HSb.out k t ht hlk)
      have D3 := Lib.hid (HRt.out k t ht)
      have D4 := Lib.hid (HMl.out k t ht)
      have D5 := Lib.hid (HAd.out k t ht hlk)
      have hdt := HDt.out t (List.mem_of_getElem? ht)
      have hwt : IntKind.i64.wrap (z.day - t.day) = z.day - t.day := Go.IntWalk.i64_in _ (by omega)
      have HT := Lib.hid ht
      have hkm : (k : Int) < (m : Int) + 1 := by omega
      have hkm2 : k < m + 1 := by omega
      generalize ((val t.fl : Int) : Rat) = qf at *
      generalize Rat.divInt (val t.fl * (z.day - t.day)) (z.day - a.day) = qp at *
      generalize Rat.divInt (z.day - t.day) (z.day - a.day) = qr at *
      obtain ⟨gq, hgq⟩ : ∃ gq : Nat → Rat, gq = fun k => ((gk k : Int) : Rat) := ⟨_, rfl⟩
      have hg1 : ((gk k : Int) : Rat) = gq k := by rw [hgq]
      have hg2 : ((gk (k + 1) : Int) : Rat) = gq (k + 1) := by rw [hgq]
      rw [hg1, hg2] at D2
      rw [hg1] at x5
      clear ht hA'
      go_wp2_with fail
      ((with_reducible refine (D1.out.of hG hb).mono ?_); rintro e w8 ⟨rfl, hb8⟩)
      have hbA := below_alloc w8 (.cells #[.string ⟨(fN (qf)).toArray⟩, .string ⟨(fD (qf)).toArray⟩] 32)
      have x8 := FBox.new w8 (.string ⟨(fN (qf)).toArray⟩) (.string ⟨(fD (qf)).toArray⟩) 32
      have x5l := x5.lt
      have x6l := x6.lt
      have hz8 := hb8.size
      have hbC := bto hb8 hbA
      replace x2 := x2.below hbC
      replace x5 := x5.below hbC
      replace x6 := x6.below hbC
      replace hb := bto hb hbC
      have n85 : w8.heap.size ≠ b5 := by omega
      clear hb8 hbA hbC D1 u0 u1 u2 hz8
      have p0 := x5.c0
      have p1 := x5.c1
      have p2 := x8.c0
      have p3 := x8.c1
      go_wp2_with fail
      ((with_reducible refine (D2.out.of hG hb).mono ?_); rintro e w9 ⟨rfl, hb9⟩)
      replace x2 := x2.below hb9
      replace x5 := x5.below hb9
      replace x6 := x6.below hb9
      replace x8 := x8.below hb9
      replace hb := bto hb hb9
      clear hb9 D2 p0 p1 p2 p3
      have k0 := x5.c0
      have k1 := x5.c1
      have k2 := x5.f0
      have k3 := x5.f1
      go_wp2_with fail
      obtain ⟨wn, hwn⟩ : ∃ wn, wn = (w9.setCell ⟨b5, 0, none⟩ (.string ⟨(fN (gq (k + 1))).toArray⟩)).setCell ⟨b5, 1, none⟩ (.string ⟨(fD (gq (k + 1))).toArray⟩) := ⟨_, rfl⟩
      replace x2 := x2.setNe n25 (.string ⟨(fN (gq (k + 1))).toArray⟩) (.string ⟨(fD (gq (k + 1))).toArray⟩)
      replace x6 := x6.setNe (Ne.symm n56) (.string ⟨(fN (gq (k + 1))).toArray⟩) (.string ⟨(fD (gq (k + 1))).toArray⟩)
      replace x8 := x8.setNe n85 (.string ⟨(fN (gq (k + 1))).toArray⟩) (.string ⟨(fD (gq (k + 1))).toArray⟩)
      replace x5 := x5.set (.string ⟨(fN (gq (k + 1))).toArray⟩) (.string ⟨(fD (gq (k + 1))).toArray⟩)
      replace hb := below_set2 (b := b5) hb n5 (.string ⟨(fN (gq (k + 1))).toArray⟩) (.string ⟨(fD (gq (k + 1))).toArray⟩)
      rw [← hwn] at x2 x5 x6 x8 hb ⊢
      clear hwn k0 k1 k2 k3
      obtain ⟨b', o', hA', hbs, u0, -, -⟩ := (HQ.out.mem.below hb) k t HT.out
      obtain ⟨rfl, rfl⟩ : b = b' ∧ o = o' := by injection hA' with hA'; injection hA' with h1 h2; exact ⟨h1, h2⟩
      obtain ⟨b', o', hA', -, r0, -, -⟩ := (HQ.out.mem.below hb) m z HZ.out
      obtain ⟨rfl, rfl⟩ : b = b' ∧ o = o' := by injection hA' with hA'; injection hA' with h1 h2; exact ⟨h1, h2⟩
      obtain ⟨b', o', hA', -, p0, -, -⟩ := (HQ.out.mem.below hb) 0 a HA.out
      obtain ⟨rfl, rfl⟩ : b = b' ∧ o = o' := by injection hA' with hA'; injection hA' with h1 h2; exact ⟨h1, h2⟩
      rw [Nat.zero_mul, Nat.add_zero] at p0
      clear hA'
      refine wp_region_kept (by kernel_rfl) (by kernel_rfl) ?_
      refine kept_val _ (fun _ => rfl) (fun ρ wz hw => by go_simp; first | done | with_reducible rfl) ?_
      simp only [Act.put, List.setIfInBounds_toArray, List.set_cons_zero, List.set_cons_succ, Nat.reduceAdd]
      refine kept_val _ (fun _ => rfl) (fun ρ wz hw => by go_simp; first | done | with_reducible rfl) ?_
      simp only [Act.put, List.setIfInBounds_toArray, List.set_cons_zero, List.set_cons_succ, Nat.reduceAdd]
      refine kept_val _ (fun _ => rfl) (fun ρ wz hw => by go_simp; first | done | with_reducible rfl) ?_
      simp only [Act.put, List.setIfInBounds_toArray, List.set_cons_zero, List.set_cons_succ, Nat.reduceAdd]
      refine kept_val _ (fun _ => rfl) (fun ρ wz hw => by go_simp; first | done | with_reducible rfl) ?_
      simp only [Act.put, List.setIfInBounds_toArray, List.set_cons_zero, List.set_cons_succ, Nat.reduceAdd]
      refine kept_val _ (fun _ => rfl) (fun ρ wz hw => by have q0 := (hw.cell (p := ⟨b, o + m * 3, none⟩) hbs).trans r0; go_simp; first | done | with_reducible rfl) ?_
      simp only [Act.put, List.setIfInBounds_toArray, List.set_cons_zero, List.set_cons_succ, Nat.reduceAdd]
      refine kept_val _ (fun _ => rfl) (fun ρ wz hw => by go_simp; first | done | with_reducible rfl) ?_
      simp only [Act.put, List.setIfInBounds_toArray, List.set_cons_zero, List.set_cons_succ, Nat.reduceAdd]
      refine kept_val _ (fun _ => rfl) (fun ρ wz hw => by go_simp; first | done | with_reducible rfl) ?_
      simp only [Act.put, List.setIfInBounds_toArray, List.set_cons_zero, List.set_cons_succ, Nat.reduceAdd]
      refine kept_val _ (fun _ => rfl) (fun ρ wz hw => by go_simp; first | done | with_reducible rfl) ?_
      simp only [Act.put, List.setIfInBounds_toArray, List.set_cons_zero, List.set_cons_succ, Nat.reduceAdd]
      refine kept_val _ (fun _ => rfl) (fun ρ wz hw => by go_simp; first | done | with_reducible rfl) ?_
      simp only [Act.put, List.setIfInBounds_toArray, List.set_cons_zero, List.set_cons_succ, Nat.reduceAdd]
      refine kept_val _ (fun _ => rfl) (fun ρ wz hw => by have q0 := (hw.cell (p := ⟨b, o + k * 3, none⟩) hbs).trans u0; go_simp; first | done | with_reducible rfl) ?_
      simp only [Act.put, List.setIfInBounds_toArray, List.set_cons_zero, List.set_cons_succ, Nat.reduceAdd]
      refine kept_val _ (fun _ => rfl) (fun ρ wz hw => by go_simp; first | done | with_reducible rfl) ?_
      simp only [Act.put, List.setIfInBounds_toArray, List.set_cons_zero, List.set_cons_succ, Nat.reduceAdd]
      refine kept_val _ (fun _ => rfl) (fun ρ wz hw => by go_simp; first | done | with_reducible rfl) ?_
      simp only [Act.put, List.setIfInBounds_toArray, List.set_cons_zero, List.set_cons_succ, Nat.reduceAdd]
      refine kept_val _ (fun _ => rfl) (fun ρ wz hw => by go_simp; first | done | with_reducible rfl) ?_
      simp only [Act.put, List.setIfInBounds_toArray, List.set_cons_zero, List.set_cons_succ, Nat.reduceAdd]
      refine kept_val _ (fun _ => rfl) (fun ρ wz hw => by go_simp; first | done | with_reducible rfl) ?_
      simp only [Act.put, List.setIfInBounds_toArray, List.set_cons_zero, List.set_cons_succ, Nat.reduceAdd]
      refine kept_val _ (fun _ => rfl) (fun ρ wz hw => by go_simp; first | done | with_reducible rfl) ?_
      simp only [Act.put, List.setIfInBounds_toArray, List.set_cons_zero, List.set_cons_succ, Nat.reduceAdd]
      refine kept_val _ (fun _ => rfl) (fun ρ wz hw => by have q0 := (hw.cell (p := ⟨b, o + m * 3, none⟩) hbs).trans r0; go_simp; first | done | with_reducible rfl) ?_
      simp only [Act.put, List.setIfInBounds_toArray, List.set_cons_zero, List.set_cons_succ, Nat.reduceAdd]
      refine kept_val _ (fun _ => rfl) (fun ρ wz hw => by go_simp; first | done | with_reducible rfl) ?_
      simp only [Act.put, List.setIfInBounds_toArray, List.set_cons_zero, List.set_cons_succ, Nat.reduceAdd]
      refine kept_val _ (fun _ => rfl) (fun ρ wz hw => by go_simp; first | done | with_reducible rfl) ?_
      simp only [Act.put, List.setIfInBounds_toArray, List.set_cons_zero, List.set_cons_succ, Nat.reduceAdd]
      refine kept_val _ (fun _ => rfl) (fun ρ wz hw => by go_simp; first | done | with_reducible rfl) ?_
      simp only [Act.put, List.setIfInBounds_toArray, List.set_cons_zero, List.set_cons_succ, Nat.reduceAdd]
      refine kept_val _ (fun _ => rfl) (fun ρ wz hw => by have q0 := (hw.cell (p := ⟨b, o, none⟩) hbs).trans p0; go_simp; first | done | with_reducible rfl) ?_
      simp only [Act.put, List.setIfInBounds_toArray, List.set_cons_zero, List.set_cons_succ, Nat.reduceAdd]
      refine kept_val _ (fun _ => rfl) (fun ρ wz hw => by go_simp; first | done | with_reducible rfl) ?_
      simp only [Act.put, List.setIfInBounds_toArray, List.set_cons_zero, List.set_cons_succ, Nat.reduceAdd]
      refine kept_call _ _ _ (fun _ => rfl) (fun ρ wz hw => by go_simp; first | done | with_reducible rfl) (fun wz hw => D3.out.of hG (bto hb hw)) ?_
      simp only [Act.put, List.setIfInBounds_toArray, List.set_cons_zero, List.set_cons_succ, Nat.reduceAdd]
      refine kept_box (fun b => .pointer (some ⟨b, 0, none⟩)) _ rfl (fun _ => rfl) (fun ρ wz hw => by go_simp; first | done | with_reducible rfl) ?_
      simp only [Act.put, List.setIfInBounds_toArray, List.set_cons_zero, List.set_cons_succ, Nat.reduceAdd]
      refine kept_put2 22 _ 9 _ _ _ _ _ rfl rfl rfl (by decide) (fun _ => rfl) (fun ρ wz hw q0 q1 q2 q3 => by go_simp; first | done | with_reducible rfl) ?_
      simp only [Act.put, Nat.reduceAdd]
      refine kept_end (fun ρ w13 hF => ?_)
      have x9 := FBox.ofB (hF.box 22 _ _ rfl).2
      have hbF := hF.below
      (try dsimp only)
      generalize ρ 22 = b9 at *
      replace x2 := x2.below hbF
      replace x5 := x5.below hbF
      replace x6 := x6.below hbF
      replace x8 := x8.below hbF
      replace hb := bto hb hbF
      clear hF hbF D3 p0 r0 u0 hbs
      go_wp2_with fail
      refine wp_region_lastD (by simp) (by kernel_rfl) (by kernel_rfl) (by kernel_rfl) rfl rfl ?_
      simp only [List.dropLast_cons_cons, List.dropLast_singleton, List.getLast_cons_cons, List.getLast_singleton]
      refine kept_val _ (fun _ => rfl) (fun ρ wz hw => by have q0 := (x6.below hw).c0; have q1 := (x6.below hw).c1; go_simp; first | done | with_reducible rfl) ?_
      simp only [Act.put, List.setIfInBounds_toArray, List.set_cons_zero, List.set_cons_succ, Nat.reduceAdd]
      refine kept_val _ (fun _ => rfl) (fun ρ wz hw => by have q0 := (x8.below hw).c0; have q1 := (x8.below hw).c1; go_simp; first | done | with_reducible rfl) ?_
      simp only [Act.put, List.setIfInBounds_toArray, List.set_cons_zero, List.set_cons_succ, Nat.reduceAdd]
      refine kept_val _ (fun _ => rfl) (fun ρ wz hw => by have q0 := (x9.below hw).c0; have q1 := (x9.below hw).c1; go_simp; first | done | with_reducible rfl) ?_
      simp only [Act.put, List.setIfInBounds_toArray, List.set_cons_zero, List.set_cons_succ, Nat.reduceAdd]
      refine kept_call _ _ _ (fun _ => rfl) (fun ρ wz hw => by go_simp; first | done | with_reducible rfl) (fun wz hw => D4.out.of hG (bto hb hw)) ?_
      simp only [Act.put, List.setIfInBounds_toArray, List.set_cons_zero, List.set_cons_succ, Nat.reduceAdd]
      refine kept_call _ _ _ (fun _ => rfl) (fun ρ wz hw => by go_simp; first | done | with_reducible rfl) (fun wz hw => D5.out.of hG (bto hb hw)) ?_
      simp only [Act.put, List.setIfInBounds_toArray, List.set_cons_zero, List.set_cons_succ, Nat.reduceAdd]
      refine last_put2 b6 _ _ (.string ⟨(fN (ck (k + 1))).toArray⟩) (.string ⟨(fD (ck (k + 1))).toArray⟩) x6 (fun ρ w'' q0 q1 q2 q3 => by go_simp; first | done | with_reducible rfl) (fun ρ w14 hF y6 => ?_)
      have hbF := hF.below
      replace x2 := (x2.below hbF).setNe n26 (.string ⟨(fN (ck (k + 1))).toArray⟩) (.string ⟨(fD (ck (k + 1))).toArray⟩)
      replace x5 := (x5.below hbF).setNe n56 (.string ⟨(fN (ck (k + 1))).toArray⟩) (.string ⟨(fD (ck (k + 1))).toArray⟩)
      replace x6 := y6.set (.string ⟨(fN (ck (k + 1))).toArray⟩) (.string ⟨(fD (ck (k + 1))).toArray⟩)
      replace hb := below_set2 (b := b6) (bto hb hbF) n6 (.string ⟨(fN (ck (k + 1))).toArray⟩) (.string ⟨(fD (ck (k + 1))).toArray⟩)
      rw [← hg2] at x5
      clear hF hbF y6 x8 x9 D4 D5 hg1 hg2 hgq
      go_wp2
      go_roundw
      case rel => exact ⟨k + 1, by omega, by go_num, x5, x6, x2, hb⟩
      case measure => simp [intOf]; omega
    obtain rfl : k = m := by omega
    have p0 := x5.c0
    have p1 := x5.c1
    have p2 := x6.c0
    have p3 := x6.c1
    by_cases g0 : ck k = 0
    · have C7 := Lib.hid (C7b.out g0)
      have HV : Hid (dtzV ts = .tuple #[.agg #[.string ⟨#[]⟩, .string ⟨#[]⟩], .int .i64 10]) := by show _ = _; rw [HV0.out, if_pos g0]
      clear g0 HV0 C7a C7b
      go_wp2_with fail
      ((with_reducible refine (C7.out.of hG hb).mono ?_); rintro e w15 ⟨rfl, hb15⟩)
      replace x2 := x2.below hb15
      replace hb := bto hb hb15
      clear hb15 C7 p0 p1 p2 p3
      have g0 := x2.c0
      have g1 := x2.c1
      have g2 := x2.f0
      have g3 := x2.f1
      go_wp2
      have hy := x2.set (.string ⟨#[]⟩) (.string ⟨#[]⟩)
      have d0 := hy.c0
      have d1 := hy.c1
      refine bodyPost_ret (v := .tuple #[.agg #[.string ⟨#[]⟩, .string ⟨#[]⟩], .int .i64 10]) (by simp [results, Tryz.results29, go_sem, d0, d1]) rfl ?_
      exact ⟨by rw [HV.out], below_set2 hb (Nat.le_refl _) _ _⟩
    · have C7 := Lib.hid (C7a.out g0)
      have HV : Hid (dtzV ts = .tuple #[(Value.agg #[Value.string ⟨List.toArray (fN (((gk k : Int) : Rat) / ck k))⟩, Value.string ⟨List.toArray (fD (((gk k : Int) : Rat) / ck k))⟩]), .int .i64 0]) := by show _ = _; rw [HV0.out, if_neg g0]
      clear g0 HV0 C7a C7b
      generalize ((gk k : Int) : Rat) / ck k = fq at *
      go_wp2_with fail
      ((with_reducible refine (C7.out.of hG hb).mono ?_); rintro e w15 ⟨rfl, hb15⟩)
      replace x2 := x2.below hb15
      replace hb := bto hb hb15
      clear hb15 C7 p0 p1 p2 p3
      have g0 := x2.c0
      have g1 := x2.c1
      have g2 := x2.f0
      have g3 := x2.f1
      go_wp2
      have hy := x2.set (.string ⟨(fN fq).toArray⟩) (.string ⟨(fD fq).toArray⟩)
      have d0 := hy.c0
      have d1 := hy.c1
      refine bodyPost_ret (v := .tuple #[.agg #[.string ⟨(fN fq).toArray⟩, .string ⟨(fD fq).toArray⟩], .int .i64 0]) (by simp [results, Tryz.results29, go_sem, d0, d1]) rfl ?_
      exact ⟨by rw [HV.out], below_set2 hb (Nat.le_refl _) _ _⟩

end Go.Proofs.YtmjglcgdcclinaaGreatDoor
