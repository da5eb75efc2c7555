/- TimeweightedLinked. -/
import Derived.Test.YtmjglcgdcclinaaGreatDoorBp
import Derived.Test.YtmjglcgdcclinaaGreatDoorTx
import Derived.Test.YtmjglcgdcclinaaGreatDoorTt
namespace Go.Proofs.YtmjglcgdcclinaaGreatDoor
open Go.RowKit Num
set_option maxHeartbeats 16000000 in
set_option maxRecDepth 100000 in
theorem linked_law (A : Option Addr) (ts : List Pnt) (n c : Nat) (d : Int) (hd0 : 0 ≤ d) (hd1 : d ≤ 255) (w : World) (hG : Glob w) (hn : ts.length = n) (hnc : n ≤ c) (hnm : n ≤ 9223372036854775807) (h : PntAt w A ts) :
    Calls Tryz.prog 11 #[.slice A n c, .int .u8 d] w fun e w' => e = .returned (.bool true) ∧ Below w.heap.size w w' := by
  have CW := Lib.hid wAwake46
  have CF := Lib.hid (rFine A ts n c w hG hn hnm h)
  have HI := Lib.hid h
  have HN := Lib.hid hn
  have hb := Below.refl w.heap.size w
  clear h hn
  go_enter Tryz.func11, Tryz.ntmps11
  go_wp2_with fail
  refine CF.out.mono ?_
  rintro e w2 ⟨b, rfl, hq, hb2⟩
  replace hb := bto hb hb2
  clear hb2 CF
  cases b
  · clear hq
    go_wp2_with fail
    ((with_reducible refine (CW.out.of hG hb).mono ?_); rintro e w99 ⟨rfl, hb99⟩)
    go_wp2
    go_ret
    exact ⟨rfl, bto hb hb99⟩
  obtain ⟨HQ0, g0⟩ := hq rfl
  clear hq
  obtain ⟨hn1, hn12, hp, -, hok⟩ := HQ0.ok g0
  have HQ := HQ0.below hb
  have hG2 := hG.below hb
  have hr := Below.refl w2.heap.size w2
  obtain ⟨m, rfl⟩ : ∃ m, n = m + 1 := ⟨n - 1, by omega⟩
  obtain ⟨k, hk, hkn⟩ : ∃ k : Nat, d % ((m : Int) + 1) = (k : Int) ∧ k ≤ m := ⟨(d % ((m : Int) + 1)).toNat, by have := Int.emod_nonneg d (show ((m : Int) + 1) ≠ 0 by omega); omega, by have := Int.emod_nonneg d (show ((m : Int) + 1) ≠ 0 by omega); have := Int.emod_lt_of_pos d (show 0 < (m : Int) + 1 by omega); omega⟩
  obtain ⟨a, ha⟩ : ∃ a, ts[0]? = some a := ⟨_, List.getElem?_eq_getElem (by rw [HN.out]; omega)⟩
  obtain ⟨z, hz⟩ : ∃ z, ts[k]? = some z := ⟨_, List.getElem?_eq_getElem (by rw [HN.out]; omega)⟩
  obtain ⟨y, hy⟩ : ∃ y, ts[m]? = some y := ⟨_, List.getElem?_eq_getElem (by rw [HN.out]; omega)⟩
  obtain ⟨E1, L1, E2, L2⟩ := link_vals g0 HN.out hkn ha hz hy
  obtain ⟨b, o, rfl, hbs, r0, -⟩ := HQ.mem 0 a ha
  obtain ⟨b', o', hA', -, r1, -⟩ := HQ.mem k z hz
  obtain ⟨rfl, rfl⟩ : b = b' ∧ o = o' := by injection hA' with hA'; injection hA' with h1 h2; exact ⟨h1, h2⟩
  clear hA'
  obtain ⟨b', o', hA', -, r2, -⟩ := HQ.mem m y hy
  obtain ⟨rfl, rfl⟩ : b = b' ∧ o = o' := by injection hA' with hA'; injection hA' with h1 h2; exact ⟨h1, h2⟩
  clear hA'
  simp only [Nat.zero_mul, Nat.add_zero] at r0
  have CC1 : Hid (∀ w', Below w2.heap.size w2 w' → Calls Tryz.prog 53 #[.slice (some ⟨b, o, none⟩) (m + 1) c, .agg #[.int .i64 a.day, .int .i64 z.day]] w' (CutEnd ts a.day z.day w')) := fun w' hb => twCut (hG2.below hb) (HQ.below hb) c a.day z.day
  have CC2 : Hid (∀ w', Below w2.heap.size w2 w' → Calls Tryz.prog 53 #[.slice (some ⟨b, o, none⟩) (m + 1) c, .agg #[.int .i64 z.day, .int .i64 y.day]] w' (CutEnd ts z.day y.day w')) := fun w' hb => twCut (hG2.below hb) (HQ.below hb) c z.day y.day
  unfold CutEnd at CC1 CC2
  rw [E1, L1] at CC1
  rw [E2, L2] at CC2
  have P1 := pntE_take (k := k) g0
  have P2 := pntE_drop (k := k) g0 (by rw [HN.out]; omega)
  have LL1 : (ts.take (k + 1)).length = k + 1 := by rw [List.length_take, HN.out]; omega
  have LL2 : (ts.drop k).length = m + 1 - k := by rw [List.length_drop, HN.out]
  have S1 : ∀ t ∈ ts.take (k + 1), t.vl.length ≤ 60 ∧ t.fl.length ≤ 60 := fun t ht => HQ.str t (List.mem_of_mem_take ht)
  have S2 : ∀ t ∈ ts.drop k, t.vl.length ≤ 60 ∧ t.fl.length ≤ 60 := fun t ht => HQ.str t (List.mem_of_mem_drop ht)
  have B1 := facs_bd1 (fun t ht => hok t (List.mem_of_mem_take ht)) (by have := (pntE_ok P1).2.2.1; exact this) (by rw [LL1]; omega)
  have B2 := facs_bd1 (fun t ht => hok t (List.mem_of_mem_drop ht)) (by have := (pntE_ok P2).2.2.1; exact this) (by rw [LL2]; omega)
  have B3 := facs_bd1 hok hp (by rw [HN.out]; exact hn12)
  have hprod := link_prod (ts := ts) (k := k) (by rw [HN.out]; omega)
  have CR3 := Lib.hid (twReturn hG2 HQ c)
  rw [ret_form g0] at CR3
  have CFa : Hid (∀ w', Below w2.heap.size w2 w' → _) := fun w' hb => twFactorsA (hG2.below hb) (HQ.below hb) c
  rw [if_pos g0, if_pos g0] at CFa
  have HR1 : Hid (∀ w' A' c', Below w2.heap.size w2 w' → PntAt w' A' (ts.take (k + 1)) → RetB w' 26 #[.slice A' (k + 1) c'] (.tuple #[(Value.agg #[Value.string ⟨List.toArray (fN (prodQ 1 (facs (pts (ts.take (k + 1)))) - 1))⟩, Value.string ⟨List.toArray (fD (prodQ 1 (facs (pts (ts.take (k + 1)))) - 1))⟩]), .int .i64 0])) := fun w' A' c' hb hP => by
    rw [← ret_form P1]
    exact twReturn (hG2.below hb) ⟨LL1, by omega, .inl (by omega), S1, hP⟩ c'
  have HR2 : Hid (∀ w' A' c', Below w2.heap.size w2 w' → PntAt w' A' (ts.drop k) → RetB w' 26 #[.slice A' (m + 1 - k) c'] (.tuple #[(Value.agg #[Value.string ⟨List.toArray (fN (prodQ 1 (facs (pts (ts.drop k))) - 1))⟩, Value.string ⟨List.toArray (fD (prodQ 1 (facs (pts (ts.drop k))) - 1))⟩]), .int .i64 0])) := fun w' A' c' hb hP => by
    rw [← ret_form P2]
    exact twReturn (hG2.below hb) ⟨LL2, by omega, .inl (by omega), S2, hP⟩ c'
  have hfl : (facs (pts ts)).length = m := by rw [facs_len, pts_len, HN.out]; rfl
  have hfb : ∀ q ∈ facs (pts ts), Bd 42 q := facs_bd hp hok
  have HE1 : Hid (∀ w' A' c', PntAt w' A' (ts.take (k + 1)) → PntAt w' (some ⟨b, o, none⟩) (ts.take (k + 1)) → Calls Tryz.prog 55 #[.slice A' (k + 1) c', .slice (some ⟨b, o, none⟩) (k + 1) c] w' fun e w'' => e = .returned (.bool true) ∧ Below w'.heap.size w' w'') := fun w' A' c' h1 h2 => by
    have h3 := eqPnts A' (some ⟨b, o, none⟩) (ts.take (k + 1)) (ts.take (k + 1)) (k + 1) (k + 1) c' c w' LL1 LL1 (by omega) (by omega) h1 h2
    rwa [sameQs_self] at h3
  have HE2 : Hid (∀ w' A' c', PntAt w' A' (ts.drop k) → PntAt w' (some ⟨b, o + k * 3, none⟩) (ts.drop k) → Calls Tryz.prog 55 #[.slice A' (m + 1 - k) c', .slice (some ⟨b, o + k * 3, none⟩) (m + 1 - k) (c - k)] w' fun e w'' => e = .returned (.bool true) ∧ Below w'.heap.size w' w'') := fun w' A' c' h1 h2 => by
    have h3 := eqPnts A' (some ⟨b, o + k * 3, none⟩) (ts.drop k) (ts.drop k) (m + 1 - k) (m + 1 - k) c' (c - k) w' LL2 LL2 (by omega) (by omega) h1 h2
    rwa [sameQs_self] at h3
  have HTk := Lib.hid (pntAt_take HQ.mem (k + 1))
  have HDk := Lib.hid (pntAt_drop HQ.mem k)
  obtain ⟨qs, hqs⟩ : ∃ qs, qs = facs (pts ts) := ⟨_, rfl⟩
  obtain ⟨pa, hpa⟩ : ∃ pa, pa = prodQ 1 (facs (pts (ts.take (k + 1)))) := ⟨_, rfl⟩
  obtain ⟨pb, hpb⟩ : ∃ pb, pb = prodQ 1 (facs (pts (ts.drop k))) := ⟨_, rfl⟩
  obtain ⟨pc, hpc⟩ : ∃ pc, pc = prodQ 1 (facs (pts ts)) := ⟨_, rfl⟩
  have hlk := link_frs (qs := qs) (by rw [hqs, hfl]; omega)
  rw [← hqs] at hpc hfl hfb CFa
  rw [hfl] at CFa
  rw [← hpc] at hlk
  rw [← hqs, ← hpc] at B3 CR3 hprod
  rw [← hpa] at B1 HR1 hprod
  rw [← hpb] at B2 HR2 hprod
  have CG1 := Lib.hid (twGrown (q := pa - 1) (r := pa) (bd_sub B1 bd_one) (by decide) (by grind))
  have CG2 := Lib.hid (twGrown (q := pb - 1) (r := pb) (bd_sub B2 bd_one) (by decide) (by grind))
  have CG3 := Lib.hid (twGrown (q := pc - 1) (r := pc) (bd_sub B3 bd_one) (by decide) (by grind))
  have CM := Lib.hid (rMul (isq_fr B1 (by decide)) (isq_fr B2 (by decide)) hprod)
  have CLk : Hid (∀ w' A' c', Below w2.heap.size w2 w' → FsAt w' A' (frs qs) → RetB w' 50 #[.slice A' m c'] (.tuple #[(Value.agg #[Value.string ⟨List.toArray (fN pc)⟩, Value.string ⟨List.toArray (fD pc)⟩]), .int .i64 0])) := fun w' A' c' hb hP => by
    rw [← hlk]
    refine twLink (hG2.below hb) ⟨by unfold frs; rw [List.length_map]; exact hfl, by omega, .inl (by omega), fun t ht => ?_, hP⟩ c'
    obtain ⟨q, hq, rfl⟩ := List.mem_map.1 ht
    have h1 := bd_len (hfb q hq)
    exact ⟨by show (fN q).length ≤ 60; omega, by show (fD q).length ≤ 60; omega⟩
  obtain ⟨ga, hga⟩ : ∃ g, g = pa - 1 := ⟨_, rfl⟩
  obtain ⟨gb, hgb⟩ : ∃ g, g = pb - 1 := ⟨_, rfl⟩
  obtain ⟨gc, hgc⟩ : ∃ g, g = pc - 1 := ⟨_, rfl⟩
  rw [← hga] at HR1 CG1
  rw [← hgb] at HR2 CG2
  rw [← hgc] at CR3 CG3
  have HLf := Lib.hid hfl
  clear HQ HQ0 g0 hp hok ha hz hy E1 L1 E2 L2 P1 P2 S1 S2 B1 B2 B3 hprod hqs hpa hpb hpc hlk hfl hfb hga hgb hgc
  obtain ⟨ds1, hds1⟩ : ∃ l, l = ts.take (k + 1) := ⟨_, rfl⟩
  obtain ⟨ds2, hds2⟩ : ∃ l, l = ts.drop k := ⟨_, rfl⟩
  rw [← hds1] at CC1 LL1 HR1 HE1 HTk
  rw [← hds2] at CC2 LL2 HR2 HE2 HDk
  clear hds1 hds2
  have HKd := Lib.hid hk
  clear hk
  have k0 : (0 : Int) < (m : Int) + 1 := by omega
  have k1 : (k : Int) < (m : Int) + 1 := by omega
  have k2 : (m : Int) < (m : Int) + 1 := by omega
  have hwm : IntKind.i64.wrap (m : Int) = (m : Int) := Go.IntWalk.i64_in _ (by omega)
  have hwk : IntKind.i64.wrap (k : Int) = (k : Int) := Go.IntWalk.i64_in _ (by omega)
  have hwk1 : IntKind.i64.wrap ((k : Int) + 1) = (k : Int) + 1 := Go.IntWalk.i64_in _ (by omega)
  have hkt : ((k : Int) + 1).toNat = k + 1 := by omega
  go_wp2_with fail
  simp only [HKd.out]
  refine wp_region_pinchN 11 (by decide) (by kernel_rfl) (by kernel_rfl) (by kernel_rfl) (by kernel_rfl) (by kernel_rfl) (by kernel_rfl) (by kernel_rfl) ?_
  simp only [List.take_succ_cons, List.take_zero, List.drop_succ_cons, List.drop_zero, List.getElem_cons_succ, List.getElem_cons_zero]
  refine kept_val _ (fun _ => rfl) (fun ρ wz hw => by go_simp; first | done | with_reducible rfl) ?_
  simp only [Act.put, List.setIfInBounds_toArray, List.set_cons_zero, List.set_cons_succ, Nat.reduceAdd]
  refine kept_val _ (fun _ => rfl) (fun ρ wz hw => by go_simp; first | done | with_reducible rfl) ?_
  simp only [Act.put, List.setIfInBounds_toArray, List.set_cons_zero, List.set_cons_succ, Nat.reduceAdd]
  refine kept_val _ (fun _ => rfl) (fun ρ wz hw => by go_simp; first | done | with_reducible rfl) ?_
  simp only [Act.put, List.setIfInBounds_toArray, List.set_cons_zero, List.set_cons_succ, Nat.reduceAdd]
  refine kept_val _ (fun _ => rfl) (fun ρ wz hw => by go_simp; first | done | with_reducible rfl) ?_
  simp only [Act.put, List.setIfInBounds_toArray, List.set_cons_zero, List.set_cons_succ, Nat.reduceAdd]
  refine kept_val _ (fun _ => rfl) (fun ρ wz hw => by have q0 := (hw.cell (p := ⟨b, o, none⟩) hbs).trans r0; go_simp; first | done | with_reducible rfl) ?_
  simp only [Act.put, List.setIfInBounds_toArray, List.set_cons_zero, List.set_cons_succ, Nat.reduceAdd]
  refine kept_val _ (fun _ => rfl) (fun ρ wz hw => by go_simp; first | done | with_reducible rfl) ?_
  simp only [Act.put, List.setIfInBounds_toArray, List.set_cons_zero, List.set_cons_succ, Nat.reduceAdd]
  refine kept_val _ (fun _ => rfl) (fun ρ wz hw => by go_simp; first | done | with_reducible rfl) ?_
  simp only [Act.put, List.setIfInBounds_toArray, List.set_cons_zero, List.set_cons_succ, Nat.reduceAdd]
  refine kept_val _ (fun _ => rfl) (fun ρ wz hw => by go_simp; first | done | with_reducible rfl) ?_
  simp only [Act.put, List.setIfInBounds_toArray, List.set_cons_zero, List.set_cons_succ, Nat.reduceAdd]
  refine kept_val _ (fun _ => rfl) (fun ρ wz hw => by go_simp; first | done | with_reducible rfl) ?_
  simp only [Act.put, List.setIfInBounds_toArray, List.set_cons_zero, List.set_cons_succ, Nat.reduceAdd]
  refine kept_val _ (fun _ => rfl) (fun ρ wz hw => by have q0 := (hw.cell (p := ⟨b, o + k * 3, none⟩) hbs).trans r1; go_simp; first | done | with_reducible rfl) ?_
  simp only [Act.put, List.setIfInBounds_toArray, List.set_cons_zero, List.set_cons_succ, Nat.reduceAdd]
  refine kept_val _ (fun _ => rfl) (fun ρ wz hw => by go_simp; first | done | with_reducible rfl) ?_
  simp only [Act.put, List.setIfInBounds_toArray, List.set_cons_zero, List.set_cons_succ, Nat.reduceAdd]
  intro ρ w5 hF
  dsimp only
  have hbF := hF.below
  clear hF
  refine wpList_call_end rfl (by go_simp; first | done | with_reducible rfl) (CC1.out w5 (bto hr hbF)) ?_
  rintro e w5b ⟨X1, m5, cp5, rfl, hm5, -, HP1, hbG⟩
  obtain rfl : m5 = k + 1 := hm5.symm.trans LL1
  refine ⟨_, rfl, ?_⟩
  simp only [Act.put, List.setIfInBounds_toArray, List.set_cons_zero, List.set_cons_succ]
  refine kept_val _ (fun _ => rfl) (fun ρ wz hw => by go_simp; first | done | with_reducible rfl) ?_
  simp only [Act.put, List.setIfInBounds_toArray, List.set_cons_zero, List.set_cons_succ, Nat.reduceAdd]
  refine kept_val _ (fun _ => rfl) (fun ρ wz hw => by go_simp; first | done | with_reducible rfl) ?_
  simp only [Act.put, List.setIfInBounds_toArray, List.set_cons_zero, List.set_cons_succ, Nat.reduceAdd]
  refine kept_val _ (fun _ => rfl) (fun ρ wz hw => by go_simp; first | done | with_reducible rfl) ?_
  simp only [Act.put, List.setIfInBounds_toArray, List.set_cons_zero, List.set_cons_succ, Nat.reduceAdd]
  refine kept_val _ (fun _ => rfl) (fun ρ wz hw => by go_simp; first | done | with_reducible rfl) ?_
  simp only [Act.put, List.setIfInBounds_toArray, List.set_cons_zero, List.set_cons_succ, Nat.reduceAdd]
  refine kept_val _ (fun _ => rfl) (fun ρ wz hw => by go_simp; first | done | with_reducible rfl) ?_
  simp only [Act.put, List.setIfInBounds_toArray, List.set_cons_zero, List.set_cons_succ, Nat.reduceAdd]
  intro ρ w5c hF
  dsimp only
  have hbH := bto (bto hbF hbG) hF.below
  replace HP1 := HP1.below hF.below
  clear hF hbF hbG hm5
  replace hb := bto hb hbH
  replace hr := bto hr hbH
  replace r1 := (hbH.cell (p := ⟨b, o + k * 3, none⟩) hbs).trans r1
  replace r2 := (hbH.cell (p := ⟨b, o + m * 3, none⟩) hbs).trans r2
  replace hbs := Nat.lt_of_lt_of_le hbs hbH.size
  clear r0 hbH CC1
  go_wp2_with fail
  refine wp_region_pinchN 12 (by decide) (by kernel_rfl) (by kernel_rfl) (by kernel_rfl) (by kernel_rfl) (by kernel_rfl) (by kernel_rfl) (by kernel_rfl) ?_
  simp only [List.take_succ_cons, List.take_zero, List.drop_succ_cons, List.drop_zero, List.getElem_cons_succ, List.getElem_cons_zero]
  refine kept_val _ (fun _ => rfl) (fun ρ wz hw => by go_simp; first | done | with_reducible rfl) ?_
  simp only [Act.put, List.setIfInBounds_toArray, List.set_cons_zero, List.set_cons_succ, Nat.reduceAdd]
  refine kept_val _ (fun _ => rfl) (fun ρ wz hw => by go_simp; first | done | with_reducible rfl) ?_
  simp only [Act.put, List.setIfInBounds_toArray, List.set_cons_zero, List.set_cons_succ, Nat.reduceAdd]
  refine kept_val _ (fun _ => rfl) (fun ρ wz hw => by go_simp; first | done | with_reducible rfl) ?_
  simp only [Act.put, List.setIfInBounds_toArray, List.set_cons_zero, List.set_cons_succ, Nat.reduceAdd]
  refine kept_val _ (fun _ => rfl) (fun ρ wz hw => by go_simp; first | done | with_reducible rfl) ?_
  simp only [Act.put, List.setIfInBounds_toArray, List.set_cons_zero, List.set_cons_succ, Nat.reduceAdd]
  refine kept_val _ (fun _ => rfl) (fun ρ wz hw => by go_simp; first | done | with_reducible rfl) ?_
  simp only [Act.put, List.setIfInBounds_toArray, List.set_cons_zero, List.set_cons_succ, Nat.reduceAdd]
  refine kept_val _ (fun _ => rfl) (fun ρ wz hw => by have q0 := (hw.cell (p := ⟨b, o + k * 3, none⟩) hbs).trans r1; go_simp; first | done | with_reducible rfl) ?_
  simp only [Act.put, List.setIfInBounds_toArray, List.set_cons_zero, List.set_cons_succ, Nat.reduceAdd]
  refine kept_val _ (fun _ => rfl) (fun ρ wz hw => by go_simp; first | done | with_reducible rfl) ?_
  simp only [Act.put, List.setIfInBounds_toArray, List.set_cons_zero, List.set_cons_succ, Nat.reduceAdd]
  refine kept_val _ (fun _ => rfl) (fun ρ wz hw => by go_simp; first | done | with_reducible rfl) ?_
  simp only [Act.put, List.setIfInBounds_toArray, List.set_cons_zero, List.set_cons_succ, Nat.reduceAdd]
  refine kept_val _ (fun _ => rfl) (fun ρ wz hw => by go_simp; first | done | with_reducible rfl) ?_
  simp only [Act.put, List.setIfInBounds_toArray, List.set_cons_zero, List.set_cons_succ, Nat.reduceAdd]
  refine kept_val _ (fun _ => rfl) (fun ρ wz hw => by go_simp; first | done | with_reducible rfl) ?_
  simp only [Act.put, List.setIfInBounds_toArray, List.set_cons_zero, List.set_cons_succ, Nat.reduceAdd]
  refine kept_val _ (fun _ => rfl) (fun ρ wz hw => by have q0 := (hw.cell (p := ⟨b, o + m * 3, none⟩) hbs).trans r2; go_simp; first | done | with_reducible rfl) ?_
  simp only [Act.put, List.setIfInBounds_toArray, List.set_cons_zero, List.set_cons_succ, Nat.reduceAdd]
  refine kept_val _ (fun _ => rfl) (fun ρ wz hw => by go_simp; first | done | with_reducible rfl) ?_
  simp only [Act.put, List.setIfInBounds_toArray, List.set_cons_zero, List.set_cons_succ, Nat.reduceAdd]
  intro ρ w6 hF
  dsimp only
  have hbF := hF.below
  clear hF
  refine wpList_call_end rfl (by go_simp; first | done | with_reducible rfl) (CC2.out w6 (bto hr hbF)) ?_
  rintro e w6b ⟨X2, m6, cp6, rfl, hm6, -, HP2, hbG⟩
  obtain rfl : m6 = m + 1 - k := hm6.symm.trans LL2
  refine ⟨_, rfl, ?_⟩
  simp only [Act.put, List.setIfInBounds_toArray, List.set_cons_zero, List.set_cons_succ]
  refine kept_val _ (fun _ => rfl) (fun ρ wz hw => by go_simp; first | done | with_reducible rfl) ?_
  simp only [Act.put, List.setIfInBounds_toArray, List.set_cons_zero, List.set_cons_succ, Nat.reduceAdd]
  refine kept_val _ (fun _ => rfl) (fun ρ wz hw => by go_simp; first | done | with_reducible rfl) ?_
  simp only [Act.put, List.setIfInBounds_toArray, List.set_cons_zero, List.set_cons_succ, Nat.reduceAdd]
  refine kept_val _ (fun _ => rfl) (fun ρ wz hw => by go_simp; first | done | with_reducible rfl) ?_
  simp only [Act.put, List.setIfInBounds_toArray, List.set_cons_zero, List.set_cons_succ, Nat.reduceAdd]
  refine kept_val _ (fun _ => rfl) (fun ρ wz hw => by go_simp; first | done | with_reducible rfl) ?_
  simp only [Act.put, List.setIfInBounds_toArray, List.set_cons_zero, List.set_cons_succ, Nat.reduceAdd]
  refine kept_val _ (fun _ => rfl) (fun ρ wz hw => by go_simp; first | done | with_reducible rfl) ?_
  simp only [Act.put, List.setIfInBounds_toArray, List.set_cons_zero, List.set_cons_succ, Nat.reduceAdd]
  intro ρ w6c hF
  dsimp only
  have hbH := bto (bto hbF hbG) hF.below
  replace HP2 := HP2.below hF.below
  clear hF hbF hbG hm6
  replace hb := bto hb hbH
  replace hr := bto hr hbH
  replace HP1 := HP1.below hbH
  clear r1 r2 hbH CC2
  go_wp2_with fail
  ((with_reducible refine (HE1.out _ X1 cp5 HP1 (HTk.out.below hr)).mono ?_); rintro e w7 ⟨rfl, hb7⟩)
  replace HP1 := HP1.below hb7
  replace HP2 := HP2.below hb7
  replace hb := bto hb hb7
  replace hr := bto hr hb7
  clear hb7 HE1 HTk
  go_wp2_with fail
  ((with_reducible refine (HE2.out _ X2 cp6 HP2 (HDk.out.below hr)).mono ?_); rintro e w8 ⟨rfl, hb8⟩)
  replace HP1 := HP1.below hb8
  replace HP2 := HP2.below hb8
  replace hb := bto hb hb8
  replace hr := bto hr hb8
  clear hb8 HE2 HDk
  have CR1 := Lib.hid (HR1.out _ X1 cp5 hr HP1)
  clear HR1 HP1
  go_wp2_with fail
  ((with_reducible refine (CR1.out.of (hG2.below hr) (Below.refl _ _)).mono ?_); rintro e w9 ⟨rfl, hb9⟩)
  have hbA := below_alloc w9 (.cells #[.string ⟨(fN ga).toArray⟩, .string ⟨(fD ga).toArray⟩] 32)
  have x9 := FBox.new w9 (.string ⟨(fN ga).toArray⟩) (.string ⟨(fD ga).toArray⟩) 32
  have hbC := bto hb9 hbA
  replace hb := bto hb hbC
  replace hr := bto hr hbC
  replace HP2 := HP2.below hbC
  have hz9 := hb9.size
  (try simp only [World.size_alloc] at hz9)
  clear hb9 hbA hbC
  have CR2 := Lib.hid (HR2.out _ X2 cp6 hr HP2)
  clear HR2 HP2 CR1
  go_wp2_with fail
  ((with_reducible refine (CR2.out.of (hG2.below hr) (Below.refl _ _)).mono ?_); rintro e w10 ⟨rfl, hb10⟩)
  have hbA := below_alloc w10 (.cells #[.string ⟨(fN gb).toArray⟩, .string ⟨(fD gb).toArray⟩] 32)
  have x10 := FBox.new w10 (.string ⟨(fN gb).toArray⟩) (.string ⟨(fD gb).toArray⟩) 32
  have hbC := bto hb10 hbA
  replace x9 := x9.below hbC
  replace hb := bto hb hbC
  replace hr := bto hr hbC
  have hz10 := hb10.size
  (try simp only [World.size_alloc] at hz10)
  clear hb10 hbA hbC
  clear CR2
  go_wp2_with fail
  ((with_reducible refine (CR3.out.of hG2 hr).mono ?_); rintro e w11 ⟨rfl, hb11⟩)
  have hbA := below_alloc w11 (.cells #[.string ⟨(fN gc).toArray⟩, .string ⟨(fD gc).toArray⟩] 32)
  have x11 := FBox.new w11 (.string ⟨(fN gc).toArray⟩) (.string ⟨(fD gc).toArray⟩) 32
  have hbC := bto hb11 hbA
  replace x9 := x9.below hbC
  replace x10 := x10.below hbC
  replace hb := bto hb hbC
  replace hr := bto hr hbC
  have hz11 := hb11.size
  (try simp only [World.size_alloc] at hz11)
  clear hb11 hbA hbC
  have CF := Lib.hid (CFa.out _ hr)
  clear CR3 CFa
  go_wp2_with fail
  refine CF.out.mono ?_
  rintro e w12 ⟨B1, cp12, rfl, -, HF1, hb12⟩
  replace x9 := x9.below hb12
  replace x10 := x10.below hb12
  replace x11 := x11.below hb12
  replace hb := bto hb hb12
  replace hr := bto hr hb12
  have CL := Lib.hid (CLk.out _ B1 cp12 hr HF1)
  clear hb12 CF CLk HF1
  go_wp2_with fail
  ((with_reducible refine (CL.out.of (hG2.below hr) (Below.refl _ _)).mono ?_); rintro e w13 ⟨rfl, hb13⟩)
  have hbA := below_alloc w13 (.cells #[.string ⟨(fN pc).toArray⟩, .string ⟨(fD pc).toArray⟩] 32)
  have x13 := FBox.new w13 (.string ⟨(fN pc).toArray⟩) (.string ⟨(fD pc).toArray⟩) 32
  have hbC := bto hb13 hbA
  replace x9 := x9.below hbC
  replace x10 := x10.below hbC
  replace x11 := x11.below hbC
  replace hb := bto hb hbC
  replace hr := bto hr hbC
  have hz13 := hb13.size
  (try simp only [World.size_alloc] at hz13)
  clear hb13 hbA hbC
  clear CL
  go_wp2_with fail
  refine wp_region_kept (by kernel_rfl) (by kernel_rfl) ?_
  refine kept_val _ (fun _ => rfl) (fun ρ wz hw => by go_simp; first | done | with_reducible rfl) ?_
  simp only [Act.put, List.setIfInBounds_toArray, List.set_cons_zero, List.set_cons_succ, Nat.reduceAdd]
  refine kept_val _ (fun _ => rfl) (fun ρ wz hw => by go_simp; first | done | with_reducible rfl) ?_
  simp only [Act.put, List.setIfInBounds_toArray, List.set_cons_zero, List.set_cons_succ, Nat.reduceAdd]
  refine kept_val _ (fun _ => rfl) (fun ρ wz hw => by go_simp; first | done | with_reducible rfl) ?_
  simp only [Act.put, List.setIfInBounds_toArray, List.set_cons_zero, List.set_cons_succ, Nat.reduceAdd]
  refine kept_val _ (fun _ => rfl) (fun ρ wz hw => by go_simp; first | done | with_reducible rfl) ?_
  simp only [Act.put, List.setIfInBounds_toArray, List.set_cons_zero, List.set_cons_succ, Nat.reduceAdd]
  refine kept_val _ (fun _ => rfl) (fun ρ wz hw => by go_simp; first | done | with_reducible rfl) ?_
  simp only [Act.put, List.setIfInBounds_toArray, List.set_cons_zero, List.set_cons_succ, Nat.reduceAdd]
  refine kept_val _ (fun _ => rfl) (fun ρ wz hw => by go_simp; first | done | with_reducible rfl) ?_
  simp only [Act.put, List.setIfInBounds_toArray, List.set_cons_zero, List.set_cons_succ, Nat.reduceAdd]
  refine kept_val _ (fun _ => rfl) (fun ρ wz hw => by go_simp; first | done | with_reducible rfl) ?_
  simp only [Act.put, List.setIfInBounds_toArray, List.set_cons_zero, List.set_cons_succ, Nat.reduceAdd]
  refine kept_val _ (fun _ => rfl) (fun ρ wz hw => by go_simp; first | done | with_reducible rfl) ?_
  simp only [Act.put, List.setIfInBounds_toArray, List.set_cons_zero, List.set_cons_succ, Nat.reduceAdd]
  refine kept_val _ (fun _ => rfl) (fun ρ wz hw => by go_simp; first | done | with_reducible rfl) ?_
  simp only [Act.put, List.setIfInBounds_toArray, List.set_cons_zero, List.set_cons_succ, Nat.reduceAdd]
  refine kept_val _ (fun _ => rfl) (fun ρ wz hw => by go_simp; first | done | with_reducible rfl) ?_
  simp only [Act.put, List.setIfInBounds_toArray, List.set_cons_zero, List.set_cons_succ, Nat.reduceAdd]
  refine kept_val _ (fun _ => rfl) (fun ρ wz hw => by go_simp; first | done | with_reducible rfl) ?_
  simp only [Act.put, List.setIfInBounds_toArray, List.set_cons_zero, List.set_cons_succ, Nat.reduceAdd]
  refine kept_val _ (fun _ => rfl) (fun ρ wz hw => by go_simp; first | done | with_reducible rfl) ?_
  simp only [Act.put, List.setIfInBounds_toArray, List.set_cons_zero, List.set_cons_succ, Nat.reduceAdd]
  refine kept_val _ (fun _ => rfl) (fun ρ wz hw => by go_simp; first | done | with_reducible rfl) ?_
  simp only [Act.put, List.setIfInBounds_toArray, List.set_cons_zero, List.set_cons_succ, Nat.reduceAdd]
  refine kept_val _ (fun _ => rfl) (fun ρ wz hw => by go_simp; first | done | with_reducible rfl) ?_
  simp only [Act.put, List.setIfInBounds_toArray, List.set_cons_zero, List.set_cons_succ, Nat.reduceAdd]
  refine kept_val _ (fun _ => rfl) (fun ρ wz hw => by go_simp; first | done | with_reducible rfl) ?_
  simp only [Act.put, List.setIfInBounds_toArray, List.set_cons_zero, List.set_cons_succ, Nat.reduceAdd]
  refine kept_val _ (fun _ => rfl) (fun ρ wz hw => by go_simp; first | done | with_reducible rfl) ?_
  simp only [Act.put, List.setIfInBounds_toArray, List.set_cons_zero, List.set_cons_succ, Nat.reduceAdd]
  refine kept_val _ (fun _ => rfl) (fun ρ wz hw => by go_simp; first | done | with_reducible rfl) ?_
  simp only [Act.put, List.setIfInBounds_toArray, List.set_cons_zero, List.set_cons_succ, Nat.reduceAdd]
  refine kept_val _ (fun _ => rfl) (fun ρ wz hw => by go_simp; first | done | with_reducible rfl) ?_
  simp only [Act.put, List.setIfInBounds_toArray, List.set_cons_zero, List.set_cons_succ, Nat.reduceAdd]
  refine kept_val _ (fun _ => rfl) (fun ρ wz hw => by go_simp; first | done | with_reducible rfl) ?_
  simp only [Act.put, List.setIfInBounds_toArray, List.set_cons_zero, List.set_cons_succ, Nat.reduceAdd]
  refine kept_val _ (fun _ => rfl) (fun ρ wz hw => by have q0 := (x9.below hw).c0; have q1 := (x9.below hw).c1; go_simp; first | done | with_reducible rfl) ?_
  simp only [Act.put, List.setIfInBounds_toArray, List.set_cons_zero, List.set_cons_succ, Nat.reduceAdd]
  refine kept_call _ _ _ (fun _ => rfl) (fun ρ wz hw => by go_simp; first | done | with_reducible rfl) (fun wz hw => CG1.out.of hG2 (bto hr hw)) ?_
  simp only [Act.put, List.setIfInBounds_toArray, List.set_cons_zero, List.set_cons_succ, Nat.reduceAdd]
  refine kept_val _ (fun _ => rfl) (fun ρ wz hw => by have q0 := (x10.below hw).c0; have q1 := (x10.below hw).c1; go_simp; first | done | with_reducible rfl) ?_
  simp only [Act.put, List.setIfInBounds_toArray, List.set_cons_zero, List.set_cons_succ, Nat.reduceAdd]
  refine kept_call _ _ _ (fun _ => rfl) (fun ρ wz hw => by go_simp; first | done | with_reducible rfl) (fun wz hw => CG2.out.of hG2 (bto hr hw)) ?_
  simp only [Act.put, List.setIfInBounds_toArray, List.set_cons_zero, List.set_cons_succ, Nat.reduceAdd]
  refine kept_call _ _ _ (fun _ => rfl) (fun ρ wz hw => by go_simp; first | done | with_reducible rfl) (fun wz hw => CM.out.of hG2 (bto hr hw)) ?_
  simp only [Act.put, List.setIfInBounds_toArray, List.set_cons_zero, List.set_cons_succ, Nat.reduceAdd]
  refine kept_val _ (fun _ => rfl) (fun ρ wz hw => by have q0 := (x11.below hw).c0; have q1 := (x11.below hw).c1; go_simp; first | done | with_reducible rfl) ?_
  simp only [Act.put, List.setIfInBounds_toArray, List.set_cons_zero, List.set_cons_succ, Nat.reduceAdd]
  refine kept_call _ _ _ (fun _ => rfl) (fun ρ wz hw => by go_simp; first | done | with_reducible rfl) (fun wz hw => CG3.out.of hG2 (bto hr hw)) ?_
  simp only [Act.put, List.setIfInBounds_toArray, List.set_cons_zero, List.set_cons_succ, Nat.reduceAdd]
  refine kept_val _ (fun _ => rfl) (fun ρ wz hw => by go_simp; first | done | with_reducible rfl) ?_
  simp only [Act.put, List.setIfInBounds_toArray, List.set_cons_zero, List.set_cons_succ, Nat.reduceAdd]
  refine kept_val _ (fun _ => rfl) (fun ρ wz hw => by go_simp; first | done | with_reducible rfl) ?_
  simp only [Act.put, List.setIfInBounds_toArray, List.set_cons_zero, List.set_cons_succ, Nat.reduceAdd]
  refine kept_val _ (fun _ => rfl) (fun ρ wz hw => by go_simp; first | done | with_reducible rfl) ?_
  simp only [Act.put, List.setIfInBounds_toArray, List.set_cons_zero, List.set_cons_succ, Nat.reduceAdd]
  refine kept_val _ (fun _ => rfl) (fun ρ wz hw => by have q0 := (x13.below hw).c0; have q1 := (x13.below hw).c1; go_simp; first | done | with_reducible rfl) ?_
  simp only [Act.put, List.setIfInBounds_toArray, List.set_cons_zero, List.set_cons_succ, Nat.reduceAdd]
  refine kept_val _ (fun _ => rfl) (fun ρ wz hw => by have q0 := (x11.below hw).c0; have q1 := (x11.below hw).c1; go_simp; first | done | with_reducible rfl) ?_
  simp only [Act.put, List.setIfInBounds_toArray, List.set_cons_zero, List.set_cons_succ, Nat.reduceAdd]
  refine kept_call _ _ _ (fun _ => rfl) (fun ρ wz hw => by go_simp; first | done | with_reducible rfl) (fun wz hw => CG3.out.of hG2 (bto hr hw)) ?_
  simp only [Act.put, List.setIfInBounds_toArray, List.set_cons_zero, List.set_cons_succ, Nat.reduceAdd]
  refine kept_val _ (fun _ => rfl) (fun ρ wz hw => by go_simp; first | done | with_reducible rfl) ?_
  simp only [Act.put, List.setIfInBounds_toArray, List.set_cons_zero, List.set_cons_succ, Nat.reduceAdd]
  refine kept_val _ (fun _ => rfl) (fun ρ wz hw => by go_simp; first | done | with_reducible rfl) ?_
  simp only [Act.put, List.setIfInBounds_toArray, List.set_cons_zero, List.set_cons_succ, Nat.reduceAdd]
  refine kept_val _ (fun _ => rfl) (fun ρ wz hw => by go_simp; first | done | with_reducible rfl) ?_
  simp only [Act.put, List.setIfInBounds_toArray, List.set_cons_zero, List.set_cons_succ, Nat.reduceAdd]
  refine kept_val _ (fun _ => rfl) (fun ρ wz hw => by go_simp; first | done | with_reducible rfl) ?_
  simp only [Act.put, List.setIfInBounds_toArray, List.set_cons_zero, List.set_cons_succ, Nat.reduceAdd]
  refine kept_val _ (fun _ => rfl) (fun ρ wz hw => by go_simp; first | done | with_reducible rfl) ?_
  simp only [Act.put, List.setIfInBounds_toArray, List.set_cons_zero, List.set_cons_succ, Nat.reduceAdd]
  refine kept_val _ (fun _ => rfl) (fun ρ wz hw => by go_simp; first | done | with_reducible rfl) ?_
  simp only [Act.put, List.setIfInBounds_toArray, List.set_cons_zero, List.set_cons_succ, Nat.reduceAdd]
  refine kept_val _ (fun _ => rfl) (fun ρ wz hw => by go_simp; first | done | with_reducible rfl) ?_
  simp only [Act.put, List.setIfInBounds_toArray, List.set_cons_zero, List.set_cons_succ, Nat.reduceAdd]
  refine kept_val _ (fun _ => rfl) (fun ρ wz hw => by go_simp; first | done | with_reducible rfl) ?_
  simp only [Act.put, List.setIfInBounds_toArray, List.set_cons_zero, List.set_cons_succ, Nat.reduceAdd]
  refine kept_val _ (fun _ => rfl) (fun ρ wz hw => by go_simp; first | done | with_reducible rfl) ?_
  simp only [Act.put, List.setIfInBounds_toArray, List.set_cons_zero, List.set_cons_succ, Nat.reduceAdd]
  refine kept_call _ _ _ (fun _ => rfl) (fun ρ wz hw => by go_simp; first | done | with_reducible rfl) (fun wz hw => CW.out.of hG (bto hb hw)) ?_
  simp only [Act.put, List.setIfInBounds_toArray, List.set_cons_zero, List.set_cons_succ, Nat.reduceAdd]
  refine kept_val _ (fun _ => rfl) (fun ρ wz hw => by go_simp; first | done | with_reducible rfl) ?_
  simp only [Act.put, List.setIfInBounds_toArray, List.set_cons_zero, List.set_cons_succ, Nat.reduceAdd]
  refine kept_val _ (fun _ => rfl) (fun ρ wz hw => by go_simp; first | done | with_reducible rfl) ?_
  simp only [Act.put, List.setIfInBounds_toArray, List.set_cons_zero, List.set_cons_succ, Nat.reduceAdd]
  refine kept_end (fun ρ w20 hF => ?_)
  have hbF := hF.below
  replace hb := bto hb hbF
  clear hF hbF
  go_wp2
  go_ret
  exact ⟨rfl, hb⟩
end Go.Proofs.YtmjglcgdcclinaaGreatDoor
