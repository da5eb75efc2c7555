/- trancheref46: Link, Return, Dietz. -/
import Derived.Test.YtmjglcgdcclinaaGreatDoorTm
namespace Go.Proofs.YtmjglcgdcclinaaGreatDoor
open Go.RowKit Num
def fsV (t : Fs) : Rat := fv t.1 t.2
def canB (t : Fs) : Bool := decide (t.1 = fN (fv t.1 t.2) ∧ t.2 = fD (fv t.1 t.2))
/-- what Link returns -/
def linkV (fs : List Fs) : Value := if 400 < fs.length then .tuple #[.agg #[.string ⟨#[]⟩, .string ⟨#[]⟩], .int .i64 4] else if fs.all canB = true then .tuple #[(Value.agg #[Value.string ⟨List.toArray (fN (prodQ 1 (fs.map fsV)))⟩, Value.string ⟨List.toArray (fD (prodQ 1 (fs.map fsV)))⟩]), .int .i64 0] else .tuple #[.agg #[.string ⟨#[]⟩, .string ⟨#[]⟩], .int .i64 1]
structure FL (w : World) (A : Option Addr) (fs : List Fs) (n : Nat) : Prop where
  len : fs.length = n
  sm : n ≤ 1000
  gap : n ≤ 12 ∨ 400 < n
  str : ∀ t ∈ fs, t.1.length ≤ 60 ∧ t.2.length ≤ 60
  mem : FsAt w A fs
theorem FL.below {w w' : World} {A : Option Addr} {fs : List Fs} {n : Nat} (h : FL w A fs n) (hb : Below w.heap.size w w') : FL w' A fs n := ⟨h.len, h.sm, h.gap, h.str, h.mem.below hb⟩
theorem fs_bd {fs : List Fs} {n k : Nat} (hn : fs.length = n) (h12 : n ≤ 12) (hs : ∀ t ∈ fs, t.1.length ≤ 60 ∧ t.2.length ≤ 60) : Bd 721 (prodQ 1 ((fs.map fsV).take k)) := by
  have h1 := prodQ_bd (M := 60) ((fs.map fsV).take k) bd_one (fun q hq => by
    obtain ⟨t, ht, rfl⟩ := List.mem_map.1 (List.mem_of_mem_take hq)
    exact bd_fv (hs t ht).1 (hs t ht).2 (by decide))
  refine bd_mono h1 ?_
  have : ((fs.map fsV).take k).length ≤ 12 := by rw [List.length_take, List.length_map]; omega
  omega
theorem link_step {fs : List Fs} {k : Nat} {t : Fs} (h : fs[k]? = some t) : prodQ 1 ((fs.map fsV).take (k + 1)) = prodQ 1 ((fs.map fsV).take k) * fsV t := by
  rw [take_snoc (show (fs.map fsV)[k]? = some (fsV t) by rw [List.getElem?_map, h]; rfl), prodQ_snoc]
set_option maxHeartbeats 4000000 in
set_option maxRecDepth 100000 in
theorem rwLink {w : World} {A : Option Addr} {fs : List Fs} {n : Nat} (hG : Glob w) (h : FL w A fs n) (c : Nat) : RetB w 51 #[.slice A n c] (linkV fs) := fun w' hbw => by
  replace hG := hG.below hbw
  replace h := h.below hbw
  clear hbw
  have x2 := FBox.new w' (.string ⟨#[]⟩) (.string ⟨#[]⟩) 32
  have hb := below_alloc w' (.cells #[.string ⟨#[]⟩, .string ⟨#[]⟩] 32)
  by_cases h4 : 400 < n
  · have HV : Hid (linkV fs = .tuple #[.agg #[.string ⟨#[]⟩, .string ⟨#[]⟩], .int .i64 4]) := if_pos (by rw [h.len]; exact h4)
    have e1 : decide (400 < n) = true := decide_eq_true h4
    clear h
    go_enter Tryz.func51, Tryz.ntmps51
    go_wp2
    refine bodyPost_ret (v := .tuple #[.agg #[.string ⟨#[]⟩, .string ⟨#[]⟩], .int .i64 4]) (by simp [results, Tryz.results51, go_sem]) rfl ?_
    exact ⟨by rw [HV.out], hb⟩
  have e1 : decide (400 < n) = false := decide_eq_false h4
  have h12 : n ≤ 12 := by have := h.gap; omega
  have HV0 : Hid (linkV fs = if fs.all canB = true then .tuple #[(Value.agg #[Value.string ⟨List.toArray (fN (prodQ 1 (fs.map fsV)))⟩, Value.string ⟨List.toArray (fD (prodQ 1 (fs.map fsV)))⟩]), .int .i64 0] else .tuple #[.agg #[.string ⟨#[]⟩, .string ⟨#[]⟩], .int .i64 1]) := if_neg (by rw [h.len]; exact h4)
  have HI := Lib.hid h.mem
  have HN := Lib.hid h.len
  have HS := Lib.hid h.str
  have HB : Hid (∀ k, Bd 721 (prodQ 1 ((fs.map fsV).take k))) := fun k => fs_bd h.len h12 h.str
  clear h
  go_enter Tryz.func51, Tryz.ntmps51
  go_wp2_with fail
  go_loopw [4] (fun iv wr => ∃ k : Nat, k ≤ n ∧ iv = .int .i64 (k : Int) ∧ Hid (∀ i t, i < k → fs[i]? = some t → canB t = true) ∧ FBox wr w'.heap.size (.string ⟨#[]⟩) (.string ⟨#[]⟩) ∧ Below w'.heap.size w' wr) (fun iv _ => n - (intOf iv).toNat)
  case atStart => exact ⟨0, Nat.zero_le _, rfl, fun i t hi => absurd hi (Nat.not_lt_zero _), x2, hb⟩
  case round =>
    clear hb x2
    obtain ⟨k, hk, rfl, HK, x2, hb⟩ := hrel
    by_cases hlt : k < n
    · obtain ⟨t, ht⟩ : ∃ t, fs[k]? = some t := ⟨_, List.getElem?_eq_getElem (by rw [HN.out]; omega)⟩
      obtain ⟨b, o, rfl, hbs, p0, p1⟩ := (HI.out.below hb) k t ht
      have HT := Lib.hid ht
      have hst := HS.out t (List.mem_of_getElem? ht)
      cases gc : canB t
      · have C1 := Lib.hid (sCheck (l := t.1) (l' := t.2) (by omega) (by omega) rfl (if_neg (of_decide_eq_false gc)))
        have HV : Hid (linkV fs = .tuple #[.agg #[.string ⟨#[]⟩, .string ⟨#[]⟩], .int .i64 1]) := by
          show _ = _
          rw [HV0.out, if_neg (fun h => by
            have := List.all_eq_true.1 h t (List.mem_of_getElem? ht)
            rw [gc] at this; cases this)]
        clear gc ht HK HT hst
        go_wp2_with fail
        ((with_reducible refine (C1.out.of hG hb).mono ?_); rintro e w2 ⟨rfl, hb2⟩)
        replace x2 := x2.below hb2
        replace hb := bto hb hb2
        clear hb2 C1 p0 p1
        have g0 := x2.c0
        have g1 := x2.c1
        have g2 := x2.f0
        have g3 := x2.f1
        go_wp2
        have hy := x2.set (.string ⟨#[]⟩) (.string ⟨#[]⟩)
        have d0 := hy.c0
        have d1 := hy.c1
        refine bodyPost_ret (v := .tuple #[.agg #[.string ⟨#[]⟩, .string ⟨#[]⟩], .int .i64 1]) (by simp [results, Tryz.results51, go_sem, d0, d1]) rfl ?_
        exact ⟨by rw [HV.out], below_set2 hb (Nat.le_refl _) _ _⟩
      · have C1 := Lib.hid (sCheck (l := t.1) (l' := t.2) (by omega) (by omega) rfl (if_pos (of_decide_eq_true gc)))
        have HK2 : Hid (∀ i t, i < k + 1 → fs[i]? = some t → canB t = true) := fun i x hi hx => by
          by_cases hik : i < k
          · exact HK.out i x hik hx
          · obtain rfl : i = k := by omega
            have := HT.out
            rw [hx] at this
            injection this with this
            subst this
            exact gc
        clear gc ht HK HT hst
        go_wp2_with fail
        ((with_reducible refine (C1.out.of hG hb).mono ?_); rintro e w2 ⟨rfl, hb2⟩)
        replace x2 := x2.below hb2
        replace hb := bto hb hb2
        clear hb2 C1 p0 p1
        go_wp2
        go_roundw
        case rel => exact ⟨k + 1, by omega, by go_num, HK2.out, x2, hb⟩
        case measure => simp [intOf]; omega
    have HV : Hid (linkV fs = .tuple #[(Value.agg #[Value.string ⟨List.toArray (fN (prodQ 1 (fs.map fsV)))⟩, Value.string ⟨List.toArray (fD (prodQ 1 (fs.map fsV)))⟩]), .int .i64 0]) := by
      show _ = _
      rw [HV0.out, if_pos (List.all_eq_true.2 (fun t ht => by
        obtain ⟨i, hi⟩ := List.mem_iff_getElem?.1 ht
        exact HK.out i t (by have := (List.getElem?_eq_some_iff.1 hi).1; rw [HN.out] at this; omega) hi))]
    clear HK HV0
    have C3 := Lib.hid (rwRatio (a := 1) (b := 1) (by decide) (by decide) (by decide) (show _ = prodQ 1 ((fs.map fsV).take 0) by rw [List.take_zero]; decide +kernel))
    obtain ⟨pk, hpk⟩ : ∃ pk : Nat → Rat, pk = fun k => prodQ 1 ((fs.map fsV).take k) := ⟨_, rfl⟩
    have hp0 : prodQ 1 ((fs.map fsV).take 0) = pk 0 := by rw [hpk]
    rw [hp0] at C3
    have HPN : Hid (prodQ 1 (fs.map fsV) = pk n) := by show _ = _; rw [hpk]; show _ = prodQ 1 ((fs.map fsV).take n); rw [List.take_of_length_le (by rw [List.length_map, HN.out]; exact Nat.le_refl n)]
    have HPS : Hid (∀ (k : Nat) (t : Fs), fs[k]? = some t → pk k * fsV t = pk (k + 1)) := fun k t ht => by rw [hpk]; exact (link_step ht).symm
    have HPB : Hid (∀ k, Bd 721 (pk k)) := fun k => by rw [hpk]; exact HB.out k
    clear hpk hp0 HB
    go_wp2_with fail
    ((with_reducible refine (C3.out.of hG hb).mono ?_); rintro e w3 ⟨rfl, hb3⟩)
    have hs3 := x2.lt
    have hz3 := hb3.size
    have hbA := below_alloc w3 (.cells #[.string ⟨(fN (pk 0)).toArray⟩, .string ⟨(fD (pk 0)).toArray⟩] 32)
    have x5 := FBox.new w3 (.string ⟨(fN (pk 0)).toArray⟩) (.string ⟨(fD (pk 0)).toArray⟩) 32
    have hbC := bto hb3 hbA
    replace x2 := x2.below hbC
    replace hb := bto hb hbC
    have x2l := x2.lt
    have n2 : w'.heap.size ≠ w3.heap.size := by omega
    have n5 : w'.heap.size ≤ w3.heap.size := by omega
    clear hb3 hbA hbC C3
    go_wp2_with fail
    go_loopw [6] (fun iv wr => ∃ k : Nat, k ≤ n ∧ iv = .int .i64 (k : Int) ∧ FBox wr w3.heap.size (.string ⟨(fN (pk k)).toArray⟩) (.string ⟨(fD (pk k)).toArray⟩) ∧ FBox wr w'.heap.size (.string ⟨#[]⟩) (.string ⟨#[]⟩) ∧ Below w'.heap.size w' wr) (fun iv _ => n - (intOf iv).toNat)
    case atStart => exact ⟨0, Nat.zero_le _, rfl, x5, x2, hb⟩
    case round =>
      clear hb x2 x5
      obtain ⟨k, hk, rfl, x5, x2, hb⟩ := hrel
      by_cases hlt : k < n
      · obtain ⟨t, ht⟩ : ∃ t, fs[k]? = some t := ⟨_, List.getElem?_eq_getElem (by rw [HN.out]; omega)⟩
        obtain ⟨b, o, rfl, hbs, p0, p1⟩ := (HI.out.below hb) k t ht
        have hst := HS.out t (List.mem_of_getElem? ht)
        have hbl := bd_len (HPB.out k)
        have C4 := Lib.hid (sMul (l := fN (pk k)) (l' := fD (pk k)) (k := t.1) (k' := t.2) (by omega) (by omega) (by omega) (by omega) (show _ = pk (k + 1) by rw [fv_frac]; exact HPS.out k t ht))
        clear ht hst hbl
        go_wp2_with fail
        refine wp_region_lastD (by simp) (by kernel_rfl) (by kernel_rfl) (by kernel_rfl) rfl rfl ?_
        simp only [List.dropLast_cons_cons, List.dropLast_singleton, List.getLast_cons_cons, List.getLast_singleton]
        refine kept_val _ (fun _ => rfl) (fun ρ wz hw => by have q0 := (x5.below hw).c0; have q1 := (x5.below hw).c1; go_simp; first | done | with_reducible rfl) ?_
        simp only [Act.put, List.setIfInBounds_toArray, List.set_cons_zero, List.set_cons_succ, Nat.reduceAdd]
        refine kept_val _ (fun _ => rfl) (fun ρ wz hw => by go_simp; first | done | with_reducible rfl) ?_
        simp only [Act.put, List.setIfInBounds_toArray, List.set_cons_zero, List.set_cons_succ, Nat.reduceAdd]
        refine kept_val _ (fun _ => rfl) (fun ρ wz hw => by go_simp; first | done | with_reducible rfl) ?_
        simp only [Act.put, List.setIfInBounds_toArray, List.set_cons_zero, List.set_cons_succ, Nat.reduceAdd]
        refine kept_val _ (fun _ => rfl) (fun ρ wz hw => by go_simp; first | done | with_reducible rfl) ?_
        simp only [Act.put, List.setIfInBounds_toArray, List.set_cons_zero, List.set_cons_succ, Nat.reduceAdd]
        refine kept_val _ (fun _ => rfl) (fun ρ wz hw => by have q0 := (hw.cell (p := ⟨b, o + k * 2, none⟩) hbs).trans p0; have q1 := (hw.cell (p := ⟨b, o + k * 2 + 1, none⟩) hbs).trans p1; go_simp; first | done | with_reducible rfl) ?_
        simp only [Act.put, List.setIfInBounds_toArray, List.set_cons_zero, List.set_cons_succ, Nat.reduceAdd]
        refine kept_call _ _ _ (fun _ => rfl) (fun ρ wz hw => by go_simp; first | done | with_reducible rfl) (fun wz hw => C4.out.of hG (bto hb hw)) ?_
        simp only [Act.put, List.setIfInBounds_toArray, List.set_cons_zero, List.set_cons_succ, Nat.reduceAdd]
        refine last_put2 w3.heap.size _ _ (.string ⟨(fN (pk (k + 1))).toArray⟩) (.string ⟨(fD (pk (k + 1))).toArray⟩) x5 (fun ρ w'' q0 q1 q2 q3 => by go_simp; first | done | with_reducible rfl) (fun ρ w12 hF y5 => ?_)
        have hbF := hF.below
        replace x2 := (x2.below hbF).setNe n2 (.string ⟨(fN (pk (k + 1))).toArray⟩) (.string ⟨(fD (pk (k + 1))).toArray⟩)
        replace x5 := y5.set (.string ⟨(fN (pk (k + 1))).toArray⟩) (.string ⟨(fD (pk (k + 1))).toArray⟩)
        replace hb := below_set2 (b := w3.heap.size) (bto hb hbF) n5 (.string ⟨(fN (pk (k + 1))).toArray⟩) (.string ⟨(fD (pk (k + 1))).toArray⟩)
        clear hF hbF y5 p0 p1 C4
        go_wp2
        go_roundw
        case rel => exact ⟨k + 1, by omega, by go_num, x5, x2, hb⟩
        case measure => simp [intOf]; omega
      obtain rfl : k = n := by omega
      rw [HPN.out] at HV
      have p0 := x5.c0
      have p1 := x5.c1
      have g0 := x2.c0
      have g1 := x2.c1
      have g2 := x2.f0
      have g3 := x2.f1
      go_wp2
      have hy := x2.set (.string ⟨(fN (pk k)).toArray⟩) (.string ⟨(fD (pk k)).toArray⟩)
      have d0 := hy.c0
      have d1 := hy.c1
      refine bodyPost_ret (v := .tuple #[.agg #[.string ⟨(fN (pk k)).toArray⟩, .string ⟨(fD (pk k)).toArray⟩], .int .i64 0]) (by simp [results, Tryz.results51, go_sem, d0, d1]) rfl ?_
      exact ⟨by rw [HV.out], below_set2 hb (Nat.le_refl _) _ _⟩
end Go.Proofs.YtmjglcgdcclinaaGreatDoor
