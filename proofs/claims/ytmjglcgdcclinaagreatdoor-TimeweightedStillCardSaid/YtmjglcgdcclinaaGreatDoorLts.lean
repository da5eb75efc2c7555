/- TimeweightedStill. -/
import Derived.Test.YtmjglcgdcclinaaGreatDoorLtf
namespace Go.Proofs.YtmjglcgdcclinaaGreatDoor
open Go.RowKit Num
set_option maxRecDepth 100000 in
theorem cloneQBig (A : Option Addr) (ps : List Pnt) (n c : Nat) (w : World) (hn : ps.length = n) (h0 : 0 < n) (hn2 : n ≤ 3518437208883) (h : PntAt w A ps) :
    Calls Tryz.prog 33 #[.slice A n c] w fun e w' => ∃ g cp, e = .returned (.slice (some ⟨g, 0, none⟩) n cp) ∧ n ≤ cp ∧ cp ≤ 9223372036854775807 ∧ w.heap.size ≤ g ∧ w'.ownsRow w.heap.size 50 3 (.slice (some ⟨g, 0, none⟩) n cp) n (rowsQ ps) ∧ CRow w' g 50 (rowsQ ps) ∧ Below w.heap.size w w' := by
  obtain ⟨x0, hx0⟩ : ∃ x, ps[0]? = some x := ⟨_, List.getElem?_eq_getElem (by omega)⟩
  obtain ⟨b, o, rfl, hbs, -⟩ := h 0 x0 hx0
  obtain ⟨i0, e0, e1, e2, e3⟩ := info_parts info_pnt
  refine (AnyE.slices_Clone Tryz.clonePnt i0 _ 3 40 e0 e1 e2 e3 rfl (by decide) Tryz.sizeOf50 b o n c (rowsQ ps) w (by rw [rowsQ_len, hn]) (by unfold maxLen; omega) (by omega) (fun j u hu => ?_) (rowsQ_one ps)).mono ?_
  · obtain ⟨x, h1, h2⟩ := rowsQ_get hu
    obtain ⟨b', o', hA, -, hc1, hc2, hc3⟩ := h (j / 3) x h1
    cases hA
    by_cases hj : j % 3 = 0
    · rw [if_pos hj] at h2
      rw [h2, show o + j = o + j / 3 * 3 by omega]; exact hc1
    · rw [if_neg hj] at h2
      by_cases hj : j % 3 = 1
      · rw [if_pos hj] at h2
        rw [h2, show o + j = o + j / 3 * 3 + 1 by omega]; exact hc2
      · rw [if_neg hj] at h2
        rw [h2, show o + j = o + j / 3 * 3 + 2 by omega]; exact hc3
  · rintro e w' ⟨v, rfl, hown, -, hb⟩
    have hown' : w'.ownsRow w.heap.size 50 3 v n (rowsQ ps) := hown
    obtain ⟨B, cp, rfl, hcp, hcm⟩ : ∃ A c, v = .slice A n c ∧ n ≤ c ∧ c ≤ 9223372036854775807 := by
      rcases hown'.2 with ⟨hv, h1⟩ | ⟨g, cap, cur, hv, _, _, hcap, hmx, _⟩
      · omega
      · exact ⟨_, _, hv, hcap, by first | exact hmx | (unfold maxLen at hmx; exact hmx) | omega⟩
    obtain ⟨g, rfl, hg, hr⟩ := own_crow hown' (by rw [rowsQ_len, hn]) h0
    exact ⟨g, cp, rfl, hcp, hcm, hg, hown', hr, hb⟩
set_option maxHeartbeats 1000000 in
set_option maxRecDepth 100000 in
theorem twFrac0 {l l' : List UInt8} (hl' : l'.length ≤ 1000000) (h0 : val l' = 0) : Ret 36 #[.string ⟨l.toArray⟩, .string ⟨l'.toArray⟩] (.agg #[.string ⟨#[]⟩, .string ⟨#[]⟩]) := fun w hG => by
  have C1 := Lib.hid (rNew0 (l := l) (l' := l') hl' h0)
  have x3 := FBox.new w (.string ⟨#[]⟩) (.string ⟨#[]⟩) 32
  have hb := below_alloc w (.cells #[.string ⟨#[]⟩, .string ⟨#[]⟩] 32)
  clear hl' h0
  go_enter Tryz.func36, Tryz.ntmps36
  go_wp2_with fail
  ((with_reducible refine (C1.out.of hG hb).mono ?_); rintro e w2 ⟨rfl, hb2⟩)
  have x4 := FBox.new w2 (.string ⟨#[]⟩) (.string ⟨#[]⟩) 32
  have hbA := below_alloc w2 (.cells #[.string ⟨#[]⟩, .string ⟨#[]⟩] 32)
  replace x3 := (x3.below hb2).below hbA
  replace hb := bto hb (bto hb2 hbA)
  have g0 := x3.c0
  have g1 := x3.c1
  have g2 := x3.f0
  have g3 := x3.f1
  have p0 := x4.c0
  have p1 := x4.c1
  clear hb2 hbA
  go_wp2
  have hy := x3.set (.string ⟨#[]⟩) (.string ⟨#[]⟩)
  have d0 := hy.c0
  have d1 := hy.c1
  refine bodyPost_ret (v := (.agg #[.string ⟨#[]⟩, .string ⟨#[]⟩])) (by simp [results, Tryz.results36, go_sem, d0, d1]) rfl ?_
  exact ⟨rfl, below_set2 hb (Nat.le_refl _) _ _⟩

theorem noFlow_at {ts : List Pnt} {i : Nat} {t : Pnt} (h : ts[i]? = some t) : (ts.map noFlow)[i]? = some (noFlow t) := by rw [List.getElem?_map, h]; rfl
set_option maxHeartbeats 8000000 in
set_option maxRecDepth 100000 in
theorem still_law (A : Option Addr) (ts : List Pnt) (n c : Nat) (w : World) (hG : Glob w) (hn : ts.length = n) (hbig : n ≤ 3518437208883) (h : PntAt w A ts) :
    Calls Tryz.prog 5 #[.slice A n c] w fun e w' => e = .returned (.bool true) ∧ Below w.heap.size w w' := by
  have CW := Lib.hid wAwake46
  have HI := Lib.hid h
  have HN := Lib.hid hn
  have hb := Below.refl w.heap.size w
  by_cases h0 : n = 0
  · subst h0
    have C0 := Lib.hid (cloneQ0 A c w)
    clear h hn
    go_enter Tryz.func5, Tryz.ntmps5
    go_wp2_with fail
    refine C0.out.mono ?_
    rintro e w2 ⟨B, cp, rfl, hb2⟩
    replace hb := bto hb hb2
    clear hb2 C0
    go_wp2_with fail
    go_loopw [17] (fun iv wr => iv = .int .i64 0 ∧ Below w.heap.size w wr) (fun iv _ => 0)
    case atStart => exact ⟨rfl, hb⟩
    case round =>
      clear hb
      obtain ⟨rfl, hb⟩ := hrel
      have CF := Lib.hid (rFine B [] 0 cp wr (hG.below hb) rfl (by decide) (fun i t ht => by simp at ht))
      go_wp2_with fail
      refine CF.out.mono ?_
      rintro e w3 ⟨b, rfl, hq, hb3⟩
      replace hb := bto hb hb3
      cases b
      · clear hq hb3 CF
        go_wp2_with fail
        ((with_reducible refine (CW.out.of hG hb).mono ?_); rintro e w99 ⟨rfl, hb99⟩)
        go_wp2
        go_ret
        exact ⟨rfl, bto hb hb99⟩
      · exact absurd (hq rfl).2 (by decide)
  have CK := Lib.hid (cloneQBig A ts n c w hn (by omega) hbig h)
  clear h hn
  go_enter Tryz.func5, Tryz.ntmps5
  go_wp2_with fail
  refine CK.out.mono ?_
  rintro e w2 ⟨g, cp, rfl, hcp, -, hwg, -, HR, hb2⟩
  have hgw : w.heap.size ≤ g := hwg
  replace hb := bto hb hb2
  clear hb2 CK hwg
  go_wp2_with fail
  go_loopw [17] (fun iv wr => ∃ k : Nat, k ≤ n ∧ iv = .int .i64 (k : Int) ∧ CRow wr g 50 (rowsQ (mixF noFlow ts k)) ∧ Below w.heap.size w wr) (fun iv _ => n - (intOf iv).toNat)
  case atStart => exact ⟨0, Nat.zero_le _, rfl, HR, hb⟩
  case round =>
    clear hb HR
    obtain ⟨k, hk, rfl, HR, hb⟩ := hrel
    by_cases hlt : k < n
    · obtain ⟨t, ht⟩ : ∃ t, ts[k]? = some t := ⟨_, List.getElem?_eq_getElem (by rw [HN.out]; omega)⟩
      have hx : (mixF noFlow ts k)[k]? = some t := mix_at ht
      obtain ⟨v1, hv1⟩ : ∃ v, (rowsQ (mixF noFlow ts k))[k * 3 + 2]? = some (.string v) := ⟨_, (rowsQ_at hx).2.2⟩
      have q0 := HR.cell hv1
      have q1 := HR.free (k * 3 + 2)
      have HR2 := HR.set (k * 3 + 2) (.string ⟨([] : List UInt8).toArray⟩)
      rw [rowsQ_setF [] hx, show (mixF noFlow ts k).set k ⟨t.day, t.vl, []⟩ = mixF noFlow ts (k + 1) from mix_set ht] at HR2
      have HR2' := Lib.hid HR2
      have hb2 := Lib.hid (hb.setCell (p := ⟨g, k * 3 + 2, none⟩) hgw (.string ⟨([] : List UInt8).toArray⟩))
      clear HR2 HR hb hv1 ht hx
      go_wp2
      go_roundw
      case rel => exact ⟨k + 1, by omega, by go_num, HR2'.out, hb2.out⟩
      case measure => simp [intOf]; omega
    obtain rfl : k = n := by omega
    rw [mix_all (by rw [HN.out]; omega)] at HR
    have CF := Lib.hid (rFine (some ⟨g, 0, none⟩) (ts.map noFlow) k cp wr (hG.below hb) (by rw [List.length_map, HN.out]) (by omega) (crow_pnt HR))
    go_wp2_with fail
    refine CF.out.mono ?_
    rintro e w3 ⟨b, rfl, hq, hb3⟩
    replace HR := HR.below hb3
    replace hb := bto hb hb3
    clear hb3 CF
    cases b
    · clear hq
      go_wp2_with fail
      ((with_reducible refine (CW.out.of hG hb).mono ?_); rintro e w99 ⟨rfl, hb99⟩)
      go_wp2
      go_ret
      exact ⟨rfl, bto hb hb99⟩
    obtain ⟨HQ, g0⟩ := hq rfl
    have HQ3 : QL w3 (some ⟨g, 0, none⟩) (ts.map noFlow) k := ⟨HQ.len, HQ.sm, HQ.gap, HQ.str, crow_pnt HR⟩
    clear hq HQ
    have hG3 := hG.below hb
    obtain ⟨-, hk12, -, -, -⟩ := HQ3.ok g0
    obtain ⟨m, rfl⟩ : ∃ m, k = m + 1 := ⟨k - 1, by omega⟩
    obtain ⟨a, ha⟩ : ∃ a, ts[0]? = some a := ⟨_, List.getElem?_eq_getElem (by rw [HN.out]; omega)⟩
    obtain ⟨z, hz⟩ : ∃ z, ts[m]? = some z := ⟨_, List.getElem?_eq_getElem (by rw [HN.out]; omega)⟩
    have hla := (HQ3.str _ (List.mem_of_getElem? (noFlow_at ha))).1
    have hlz := (HQ3.str _ (List.mem_of_getElem? (noFlow_at hz))).1
    have p1 : w3.cell? ⟨g, 1, none⟩ = some (.string ⟨a.vl.toArray⟩) := by have h := HR.cell (rowsQ_at (noFlow_at ha)).2.1; rw [Nat.zero_mul, Nat.zero_add] at h; exact h
    have r1 : w3.cell? ⟨g, m * 3 + 1, none⟩ = some (.string ⟨z.vl.toArray⟩) := HR.cell (rowsQ_at (noFlow_at hz)).2.1
    have hgl := HR.lt
    have CR := Lib.hid (twReturn hG3 HQ3 cp)
    have CD := Lib.hid (twDietz hG3 HQ3 cp hcp)
    have hwm : IntKind.i64.wrap (m : Int) = (m : Int) := Go.IntWalk.i64_in _ (by omega)
    have hlm : (m : Int) < (m : Int) + 1 := by omega
    have hw0 : IntKind.i64.wrap (0 : Int) = 0 := by decide
    have c0 : Ret 37 #[.string ⟨[49].toArray⟩] (Value.agg #[Value.string ⟨List.toArray (fN ((1 : Rat)))⟩, Value.string ⟨List.toArray (fD ((1 : Rat)))⟩]) := by have h := rOf (l := [49]) (by decide) (z := 1) (by decide); exact h
    have B2 := Lib.hid c0
    by_cases hm : m = 0
    · subst hm
      have hret : retV (ts.map noFlow) = .tuple #[.agg #[.string ⟨([] : List UInt8).toArray⟩, .string ⟨([] : List UInt8).toArray⟩], .int .i64 0] := by
        rw [ret_form g0]
        have h1 := facs_len (pts (ts.map noFlow))
        rw [pts_len, List.length_map, HN.out] at h1
        rw [List.length_eq_zero_iff.1 h1, show prodQ 1 [] - 1 = (0 : Rat) by decide +kernel, show fN (0 : Rat) = [] by decide +kernel, show fD (0 : Rat) = [] by decide +kernel]
      have hdtz : dtzV (ts.map noFlow) = .tuple #[.agg #[.string ⟨([] : List UInt8).toArray⟩, .string ⟨([] : List UInt8).toArray⟩], .int .i64 11] := by
        unfold dtzV; rw [if_neg (fun h => h g0), if_pos (by rw [List.length_map, HN.out])]
      rw [hret] at CR
      rw [hdtz] at CD
      obtain rfl : a = z := by rw [ha] at hz; injection hz
      obtain ⟨u1, u2, hB1, B3'⟩ : ∃ u1 u2 : List UInt8, Ret 36 #[.string ⟨a.vl.toArray⟩, .string ⟨a.vl.toArray⟩] (Value.agg #[Value.string ⟨List.toArray u1⟩, Value.string ⟨List.toArray u2⟩]) ∧ ∃ y1 y2 : List UInt8, Ret 35 #[(Value.agg #[Value.string ⟨List.toArray u1⟩, Value.string ⟨List.toArray u2⟩]), (Value.agg #[Value.string ⟨List.toArray (fN ((1 : Rat)))⟩, Value.string ⟨List.toArray (fD ((1 : Rat)))⟩])] (Value.agg #[Value.string ⟨List.toArray y1⟩, Value.string ⟨List.toArray y2⟩]) := by
        by_cases hv : val a.vl = 0
        · exact ⟨[], [], twFrac0 (by have : a.vl.length ≤ 60 := hla; omega) hv, _, _, rSub isq_zero (isq_fr bd_one (by decide)) rfl⟩
        · refine ⟨_, _, twFrac (by have : a.vl.length ≤ 60 := hla; omega) (by have : a.vl.length ≤ 60 := hla; omega) hv rfl, _, _, rSub (isq_fr (bd_divInt (k := 60) (val_lt_of hla) (val_lt_of hla) hv) (by decide)) (isq_fr bd_one (by decide)) rfl⟩
      obtain ⟨y1, y2, hB3⟩ := B3'
      have B1 := Lib.hid hB1
      have B3 := Lib.hid hB3
      generalize fN (1 : Rat) = o1 at *
      generalize fD (1 : Rat) = o2 at *
      rw [Nat.zero_mul, Nat.zero_add] at r1
      have hr := Below.refl w3.heap.size w3
      clear hB1 hB3 hret hdtz c0 ha hla hlz g0 hz HR
      go_wp2_with fail
      refine wp_region_kept (by kernel_rfl) (by kernel_rfl) ?_
      refine kept_val _ (fun _ => rfl) (fun ρ w hw => by go_simp; first | done | with_reducible rfl) ?_
      simp only [Act.put, List.setIfInBounds_toArray, List.set_cons_zero, List.set_cons_succ, Nat.reduceAdd]
      refine kept_val _ (fun _ => rfl) (fun ρ w hw => by go_simp; first | done | with_reducible rfl) ?_
      simp only [Act.put, List.setIfInBounds_toArray, List.set_cons_zero, List.set_cons_succ, Nat.reduceAdd]
      refine kept_val _ (fun _ => rfl) (fun ρ w hw => by go_simp; first | done | with_reducible rfl) ?_
      simp only [Act.put, List.setIfInBounds_toArray, List.set_cons_zero, List.set_cons_succ, Nat.reduceAdd]
      refine kept_val _ (fun _ => rfl) (fun ρ w hw => by go_simp; first | done | with_reducible rfl) ?_
      simp only [Act.put, List.setIfInBounds_toArray, List.set_cons_zero, List.set_cons_succ, Nat.reduceAdd]
      refine kept_val _ (fun _ => rfl) (fun ρ w hw => by go_simp; first | done | with_reducible rfl) ?_
      simp only [Act.put, List.setIfInBounds_toArray, List.set_cons_zero, List.set_cons_succ, Nat.reduceAdd]
      refine kept_val _ (fun _ => rfl) (fun ρ w hw => by go_simp; first | done | with_reducible rfl) ?_
      simp only [Act.put, List.setIfInBounds_toArray, List.set_cons_zero, List.set_cons_succ, Nat.reduceAdd]
      refine kept_val _ (fun _ => rfl) (fun ρ w hw => by have q0 := (hw.cell (p := ⟨g, 1, none⟩) hgl).trans r1; go_simp; first | done | with_reducible rfl) ?_
      simp only [Act.put, List.setIfInBounds_toArray, List.set_cons_zero, List.set_cons_succ, Nat.reduceAdd]
      refine kept_val _ (fun _ => rfl) (fun ρ w hw => by go_simp; first | done | with_reducible rfl) ?_
      simp only [Act.put, List.setIfInBounds_toArray, List.set_cons_zero, List.set_cons_succ, Nat.reduceAdd]
      refine kept_val _ (fun _ => rfl) (fun ρ w hw => by go_simp; first | done | with_reducible rfl) ?_
      simp only [Act.put, List.setIfInBounds_toArray, List.set_cons_zero, List.set_cons_succ, Nat.reduceAdd]
      refine kept_val _ (fun _ => rfl) (fun ρ w hw => by go_simp; first | done | with_reducible rfl) ?_
      simp only [Act.put, List.setIfInBounds_toArray, List.set_cons_zero, List.set_cons_succ, Nat.reduceAdd]
      refine kept_val _ (fun _ => rfl) (fun ρ w hw => by have q0 := (hw.cell (p := ⟨g, 1, none⟩) hgl).trans p1; go_simp; first | done | with_reducible rfl) ?_
      simp only [Act.put, List.setIfInBounds_toArray, List.set_cons_zero, List.set_cons_succ, Nat.reduceAdd]
      refine kept_call _ _ _ (fun _ => rfl) (fun ρ w hw => by go_simp; first | done | with_reducible rfl) (fun w hw => B1.out.of hG (bto hb hw)) ?_
      simp only [Act.put, List.setIfInBounds_toArray, List.set_cons_zero, List.set_cons_succ, Nat.reduceAdd]
      refine kept_call _ _ _ (fun _ => rfl) (fun ρ w hw => by go_simp; first | done | with_reducible rfl) (fun w hw => B2.out.of hG (bto hb hw)) ?_
      simp only [Act.put, List.setIfInBounds_toArray, List.set_cons_zero, List.set_cons_succ, Nat.reduceAdd]
      refine kept_call _ _ _ (fun _ => rfl) (fun ρ w hw => by go_simp; first | done | with_reducible rfl) (fun w hw => B3.out.of hG (bto hb hw)) ?_
      simp only [Act.put, List.setIfInBounds_toArray, List.set_cons_zero, List.set_cons_succ, Nat.reduceAdd]
      refine kept_box (fun b => .pointer (some ⟨b, 0, none⟩)) _ rfl (fun _ => rfl) (fun ρ w hw => by go_simp; first | done | with_reducible rfl) ?_
      simp only [Act.put, List.setIfInBounds_toArray, List.set_cons_zero, List.set_cons_succ, Nat.reduceAdd]
      refine kept_put2 14 _ 4 _ _ _ _ _ rfl rfl rfl (by decide) (fun _ => rfl) (fun ρ w hw q0 q1 q2 q3 => by go_simp; first | done | with_reducible rfl) ?_
      simp only [Act.put, Nat.reduceAdd]
      refine kept_end (fun ρ w4 hF => ?_)
      have hbF := hF.below
      (try dsimp only)
      replace hr := bto hr hbF
      replace hb := bto hb hbF
      clear hF hbF p1 r1 B1 B2 B3
      go_wp2_with fail
      ((with_reducible refine (CR.out.of hG3 hr).mono ?_); rintro e w5 ⟨rfl, hb5⟩)
      have hbA := below_alloc w5 (.cells #[.string ⟨([] : List UInt8).toArray⟩, .string ⟨([] : List UInt8).toArray⟩] 32)
      have x5 := FBox.new w5 (.string ⟨([] : List UInt8).toArray⟩) (.string ⟨([] : List UInt8).toArray⟩) 32
      have hbC := bto hb5 hbA
      replace hb := bto hb hbC
      replace hr := bto hr hbC
      have hz5 := hb5.size
      (try simp only [World.size_alloc] at hz5)
      clear hb5 hbA hbC
      go_wp2_with fail
      ((with_reducible refine (CD.out.of hG3 hr).mono ?_); rintro e w6 ⟨rfl, hb6⟩)
      have hbA := below_alloc w6 (.cells #[.string ⟨([] : List UInt8).toArray⟩, .string ⟨([] : List UInt8).toArray⟩] 32)
      have x7 := FBox.new w6 (.string ⟨([] : List UInt8).toArray⟩) (.string ⟨([] : List UInt8).toArray⟩) 32
      have hbC := bto hb6 hbA
      replace x5 := x5.below hbC
      replace hb := bto hb hbC
      replace hr := bto hr hbC
      have hz6 := hb6.size
      (try simp only [World.size_alloc] at hz6)
      clear hb6 hbA hbC
      have qx50 := x5.c0
      have qx51 := x5.c1
      have qx70 := x7.c0
      have qx71 := x7.c1
      go_wp2_with fail
      ((with_reducible refine (CW.out.of hG hb).mono ?_); rintro e w99 ⟨rfl, hb99⟩)
      go_wp2
      go_ret
      exact ⟨rfl, bto hb hb99⟩
    have hsv := still_vals (by omega) HN.out ha hz g0
    obtain ⟨hret, hdtz, ha0⟩ := hsv
    rw [hdtz, hret] at CD
    rw [hret] at CR
    have hB1 := twFrac (l := z.vl) (l' := a.vl) (by have : z.vl.length ≤ 60 := hlz; omega) (by have : a.vl.length ≤ 60 := hla; omega) ha0 rfl
    have hbq : Bd 60 (Rat.divInt (val z.vl) (val a.vl)) := bd_divInt (val_lt_of hlz) (val_lt_of hla) ha0
    have hB3 := rSub (isq_fr hbq (by decide)) (isq_fr bd_one (by decide)) rfl
    have B1 := Lib.hid hB1
    have B3 := Lib.hid hB3
    generalize Rat.divInt (val z.vl) (val a.vl) - 1 = rr at *
    generalize Rat.divInt (val z.vl) (val a.vl) = q at *
    generalize (1 : Rat) = one at *
    have e2 : (((m + 1 : Nat) : Int) == 1) = false := intbne (by omega)
    have e3 : ((m : Int) + 1 == 1) = false := intbne (by omega)
    have hr := Below.refl w3.heap.size w3
    clear hB1 hB3 hret hdtz c0 ha hla hlz g0 hz HR hbq hm
    go_wp2_with fail
    refine wp_region_kept (by kernel_rfl) (by kernel_rfl) ?_
    refine kept_val _ (fun _ => rfl) (fun ρ w hw => by go_simp; first | done | with_reducible rfl) ?_
    simp only [Act.put, List.setIfInBounds_toArray, List.set_cons_zero, List.set_cons_succ, Nat.reduceAdd]
    refine kept_val _ (fun _ => rfl) (fun ρ w hw => by go_simp; first | done | with_reducible rfl) ?_
    simp only [Act.put, List.setIfInBounds_toArray, List.set_cons_zero, List.set_cons_succ, Nat.reduceAdd]
    refine kept_val _ (fun _ => rfl) (fun ρ w hw => by go_simp; first | done | with_reducible rfl) ?_
    simp only [Act.put, List.setIfInBounds_toArray, List.set_cons_zero, List.set_cons_succ, Nat.reduceAdd]
    refine kept_val _ (fun _ => rfl) (fun ρ w hw => by go_simp; first | done | with_reducible rfl) ?_
    simp only [Act.put, List.setIfInBounds_toArray, List.set_cons_zero, List.set_cons_succ, Nat.reduceAdd]
    refine kept_val _ (fun _ => rfl) (fun ρ w hw => by go_simp; first | done | with_reducible rfl) ?_
    simp only [Act.put, List.setIfInBounds_toArray, List.set_cons_zero, List.set_cons_succ, Nat.reduceAdd]
    refine kept_val _ (fun _ => rfl) (fun ρ w hw => by go_simp; first | done | with_reducible rfl) ?_
    simp only [Act.put, List.setIfInBounds_toArray, List.set_cons_zero, List.set_cons_succ, Nat.reduceAdd]
    refine kept_val _ (fun _ => rfl) (fun ρ w hw => by have q0 := (hw.cell (p := ⟨g, m * 3 + 1, none⟩) hgl).trans r1; go_simp; first | done | with_reducible rfl) ?_
    simp only [Act.put, List.setIfInBounds_toArray, List.set_cons_zero, List.set_cons_succ, Nat.reduceAdd]
    refine kept_val _ (fun _ => rfl) (fun ρ w hw => by go_simp; first | done | with_reducible rfl) ?_
    simp only [Act.put, List.setIfInBounds_toArray, List.set_cons_zero, List.set_cons_succ, Nat.reduceAdd]
    refine kept_val _ (fun _ => rfl) (fun ρ w hw => by go_simp; first | done | with_reducible rfl) ?_
    simp only [Act.put, List.setIfInBounds_toArray, List.set_cons_zero, List.set_cons_succ, Nat.reduceAdd]
    refine kept_val _ (fun _ => rfl) (fun ρ w hw => by go_simp; first | done | with_reducible rfl) ?_
    simp only [Act.put, List.setIfInBounds_toArray, List.set_cons_zero, List.set_cons_succ, Nat.reduceAdd]
    refine kept_val _ (fun _ => rfl) (fun ρ w hw => by have q0 := (hw.cell (p := ⟨g, 1, none⟩) hgl).trans p1; go_simp; first | done | with_reducible rfl) ?_
    simp only [Act.put, List.setIfInBounds_toArray, List.set_cons_zero, List.set_cons_succ, Nat.reduceAdd]
    refine kept_call _ _ _ (fun _ => rfl) (fun ρ w hw => by go_simp; first | done | with_reducible rfl) (fun w hw => B1.out.of hG (bto hb hw)) ?_
    simp only [Act.put, List.setIfInBounds_toArray, List.set_cons_zero, List.set_cons_succ, Nat.reduceAdd]
    refine kept_call _ _ _ (fun _ => rfl) (fun ρ w hw => by go_simp; first | done | with_reducible rfl) (fun w hw => B2.out.of hG (bto hb hw)) ?_
    simp only [Act.put, List.setIfInBounds_toArray, List.set_cons_zero, List.set_cons_succ, Nat.reduceAdd]
    refine kept_call _ _ _ (fun _ => rfl) (fun ρ w hw => by go_simp; first | done | with_reducible rfl) (fun w hw => B3.out.of hG (bto hb hw)) ?_
    simp only [Act.put, List.setIfInBounds_toArray, List.set_cons_zero, List.set_cons_succ, Nat.reduceAdd]
    refine kept_box (fun b => .pointer (some ⟨b, 0, none⟩)) _ rfl (fun _ => rfl) (fun ρ w hw => by go_simp; first | done | with_reducible rfl) ?_
    simp only [Act.put, List.setIfInBounds_toArray, List.set_cons_zero, List.set_cons_succ, Nat.reduceAdd]
    refine kept_put2 14 _ 4 _ _ _ _ _ rfl rfl rfl (by decide) (fun _ => rfl) (fun ρ w hw q0 q1 q2 q3 => by go_simp; first | done | with_reducible rfl) ?_
    simp only [Act.put, Nat.reduceAdd]
    refine kept_end (fun ρ w4 hF => ?_)
    have x4 := FBox.ofB (hF.box 14 _ _ rfl).2
    have hbF := hF.below
    (try dsimp only)
    generalize ρ 14 = b4 at *
    replace hr := bto hr hbF
    replace hb := bto hb hbF
    clear hF hbF p1 r1 B1 B2 B3
    go_wp2_with fail
    ((with_reducible refine (CR.out.of hG3 hr).mono ?_); rintro e w5 ⟨rfl, hb5⟩)
    have hbA := below_alloc w5 (.cells #[.string ⟨(fN rr).toArray⟩, .string ⟨(fD rr).toArray⟩] 32)
    have x9 := FBox.new w5 (.string ⟨(fN rr).toArray⟩) (.string ⟨(fD rr).toArray⟩) 32
    have hbC := bto hb5 hbA
    replace x4 := x4.below hbC
    replace hb := bto hb hbC
    replace hr := bto hr hbC
    have hz5 := hb5.size
    (try simp only [World.size_alloc] at hz5)
    clear hb5 hbA hbC
    go_wp2_with fail
    ((with_reducible refine (CD.out.of hG3 hr).mono ?_); rintro e w6 ⟨rfl, hb6⟩)
    have hbA := below_alloc w6 (.cells #[.string ⟨(fN rr).toArray⟩, .string ⟨(fD rr).toArray⟩] 32)
    have x11 := FBox.new w6 (.string ⟨(fN rr).toArray⟩) (.string ⟨(fD rr).toArray⟩) 32
    have hbC := bto hb6 hbA
    replace x4 := x4.below hbC
    replace x9 := x9.below hbC
    replace hb := bto hb hbC
    replace hr := bto hr hbC
    have hz6 := hb6.size
    (try simp only [World.size_alloc] at hz6)
    clear hb6 hbA hbC
    have qx40 := x4.c0
    have qx41 := x4.c1
    have qx90 := x9.c0
    have qx91 := x9.c1
    have qx110 := x11.c0
    have qx111 := x11.c1
    go_wp2_with fail
    ((with_reducible refine (CW.out.of hG hb).mono ?_); rintro e w99 ⟨rfl, hb99⟩)
    go_wp2
    go_ret
    exact ⟨rfl, bto hb hb99⟩
end Go.Proofs.YtmjglcgdcclinaaGreatDoor

