/- Texts put together: Vj Vk Vl Vm Opi. -/
import Derived.Test.YtgnppdkeiihlfaaGreatDoorF6
import Derived.Laws.StructEq
import Derived.OpenShut
import Derived.Lib.SmallJoins
import Derived.ChangeSame
namespace Go.Proofs.YtgnppdkeiihlfaaGreatDoor
open Go.RowKit Num
def cellsF (rs : List Fp2) : List Value := rs.flatMap (fun t => [.string ⟨t.1.toArray⟩, .string ⟨t.2.toArray⟩])
theorem cellsF_at : ∀ {xs : List Fp2} {i : Nat} {t : Fp2}, xs[i]? = some t → (cellsF xs)[i * 2]? = some (.string ⟨t.1.toArray⟩) ∧ (cellsF xs)[i * 2 + 1]? = some (.string ⟨t.2.toArray⟩)
  | [], i, x, h => by simp at h
  | y :: xs, 0, x, h => by
    have : y = x := by simpa using h
    subst this; exact ⟨rfl, rfl⟩
  | y :: xs, i + 1, x, h => by
    have hh := cellsF_at (xs := xs) (i := i) (t := x) (by simpa using h)
    rw [show cellsF (y :: xs) = .string ⟨y.1.toArray⟩ :: .string ⟨y.2.toArray⟩ :: cellsF xs from rfl, show (i + 1) * 2 = i * 2 + 1 + 1 by omega]
    simpa [Nat.add_right_comm, Nat.add_assoc] using hh
theorem frAt_blk {w : World} {b : Nat} {t : TypeId} {rs : List Fp2} (h : w.heap[b]? = some (.cells (cellsF rs).toArray t (0, 0))) : FrAt w (some ⟨b, 0, none⟩) rs := fun i r hr => by
  obtain ⟨h0, h1⟩ := cellsF_at hr
  exact ⟨b, 0, rfl, (Array.getElem?_eq_some_iff.1 h).1, by rw [Nat.zero_add, blk_cell h]; simpa using h0, by rw [Nat.zero_add, blk_cell h]; simpa using h1⟩
theorem le_pos (q : Rat) : decide (q ≤ 0) = !decide (0 < q) := by
  by_cases h : 0 < q
  · rw [decide_eq_true h, decide_eq_false (Rat.not_le.2 h)]; rfl
  · rw [decide_eq_false h, decide_eq_true (Rat.not_lt.1 h)]; rfl
theorem fair_eq (s d f y : Fp2) : fairB s d f y = (decide (fv y.1 y.2 < 0) || !([s, (fN (upQ d y), fD (upQ d y)), (fN (upQ f y), fD (upQ f y))].all posB)) := by
  unfold fairB posB
  simp only [List.all_cons, List.all_nil, fv_frac, le_pos]
  cases decide (fv y.1 y.2 < 0) <;> cases decide (0 < fv s.1 s.2) <;> cases decide (0 < upQ d y) <;> cases decide (0 < upQ f y) <;> rfl
theorem imp_eq (s r d y : Fp2) : impB s r d y = (decide (fv y.1 y.2 < 0) || !([s, r, (fN (upQ d y), fD (upQ d y))].all posB)) := by
  unfold impB posB
  simp only [List.all_cons, List.all_nil, fv_frac, le_pos]
  cases decide (fv y.1 y.2 < 0) <;> cases decide (0 < fv s.1 s.2) <;> cases decide (0 < fv r.1 r.2) <;> cases decide (0 < upQ d y) <;> rfl
set_option maxHeartbeats 8000000 in
set_option maxRecDepth 100000 in
theorem jFair (s d f y : Fp2) (hs : s.1.length ≤ 20 ∧ s.2.length ≤ 20) (hd : d.1.length ≤ 20 ∧ d.2.length ≤ 20) (hf : f.1.length ≤ 20 ∧ f.2.length ≤ 20) (hy : y.1.length ≤ 20 ∧ y.2.length ≤ 20) : Ret 28 #[(Value.agg #[Value.string ⟨List.toArray (s.1)⟩, Value.string ⟨List.toArray (s.2)⟩]), (Value.agg #[Value.string ⟨List.toArray (d.1)⟩, Value.string ⟨List.toArray (d.2)⟩]), (Value.agg #[Value.string ⟨List.toArray (f.1)⟩, Value.string ⟨List.toArray (f.2)⟩]), (Value.agg #[Value.string ⟨List.toArray (y.1)⟩, Value.string ⟨List.toArray (y.2)⟩])] (.tuple #[(Value.agg #[Value.string ⟨List.toArray (fN ((fairV s d f y).1))⟩, Value.string ⟨List.toArray (fD ((fairV s d f y).1))⟩]), .int .i64 (fairV s d f y).2]) := fun w hG => by
  have i_s := isj_p hs (by decide)
  have b_s : Bd 20 (fv s.1 s.2) := bd_of hs (by decide)
  have i_d := isj_p hd (by decide)
  have b_d : Bd 20 (fv d.1 d.2) := bd_of hd (by decide)
  have i_f := isj_p hf (by decide)
  have b_f : Bd 20 (fv f.1 f.2) := bd_of hf (by decide)
  have i_y := isj_p hy (by decide)
  have b_y : Bd 20 (fv y.1 y.2) := bd_of hy (by decide)
  have bu1 : Bd 42 (upQ d y) := bd_up hd hy (by decide) (by decide)
  have lu1 := bd_len bu1
  have iu1 := isj_fr bu1 (by decide)
  have Gu1 := Lib.hid (jGrow i_d i_y (bd_mul b_d b_y) (by decide) (r := upQ d y) rfl)
  have bu2 : Bd 42 (upQ f y) := bd_up hf hy (by decide) (by decide)
  have lu2 := bd_len bu2
  have iu2 := isj_fr bu2 (by decide)
  have Gu2 := Lib.hid (jGrow i_f i_y (bd_mul b_f b_y) (by decide) (r := upQ f y) rfl)
  have SN := Lib.hid (jNegative i_y)
  have bm : Bd 62 (fv s.1 s.2 * upQ d y) := bd_mul b_s bu1
  have CM := Lib.hid (tMul i_s iu1 (r := fv s.1 s.2 * upQ d y) rfl)
  have CQ := Lib.hid (fun h0 => tQuo (isj_fr bm (by decide)) iu2 h0 (r := fv s.1 s.2 * upQ d y / upQ f y) rfl)
  have CP := Lib.hid (fun (w' : World) (hb : Below w.heap.size w w') (b : Nat) (h : w'.heap[b]? = some (.cells (cellsF [s, (fN (upQ d y), fD (upQ d y)), (fN (upQ f y), fD (upQ f y))]).toArray 25 (0, 0))) => jPosL (some ⟨b, 0, none⟩) [s, (fN (upQ d y), fD (upQ d y)), (fN (upQ f y), fD (upQ f y))] 3 3 w' (hG.below hb) rfl (by decide) (frAt_blk h) (fun q hq => by
      simp only [List.mem_cons, List.not_mem_nil, or_false] at hq
      rcases hq with rfl | rfl | rfl
      · exact ⟨Nat.le_trans hs.1 (by decide), Nat.le_trans hs.2 (by decide)⟩
      · exact ⟨Nat.le_trans lu1.1 (by decide), Nat.le_trans lu1.2 (by decide)⟩
      · exact ⟨Nat.le_trans lu2.1 (by decide), Nat.le_trans lu2.2 (by decide)⟩))
  clear i_s b_s i_d b_d i_f b_f i_y b_y iu1 bu1 lu1 iu2 bu2 lu2 bm
  go_enter Tryz.func28, Tryz.ntmps28
  go_wp2_with fail
  refine (jCanonL _ [s, d, f, y] 4 4 _ (hG.below (bto (bto (bto (bto (bto (below_alloc _ _) (below_alloc _ _)) (below_alloc _ _)) (below_alloc _ _)) (below_alloc _ _)) (below_alloc _ _))) rfl (by decide) (frAt_of (by first | (simp; done) | (simp; omega)) (fun i hi => by
    have hi : i = 0 ∨ i = 1 ∨ i = 2 ∨ i = 3 := by simp at hi; omega
    rcases hi with rfl | rfl | rfl | rfl <;> simp [go_sem])) (fun q hq => by
    simp only [List.mem_cons, List.not_mem_nil, or_false] at hq
    rcases hq with rfl | rfl | rfl | rfl
    · exact ⟨Nat.le_trans hs.1 (by decide), Nat.le_trans hs.2 (by decide)⟩
    · exact ⟨Nat.le_trans hd.1 (by decide), Nat.le_trans hd.2 (by decide)⟩
    · exact ⟨Nat.le_trans hf.1 (by decide), Nat.le_trans hf.2 (by decide)⟩
    · exact ⟨Nat.le_trans hy.1 (by decide), Nat.le_trans hy.2 (by decide)⟩)).mono ?_
  rintro e w1 ⟨rfl, hb1⟩
  have x4 : FBox w1 (w.heap.size) (.string ⟨s.1.toArray⟩) (.string ⟨s.2.toArray⟩) := FBox.below ⟨by simp [go_sem], by simp [go_sem], by simp [go_sem], by simp [go_sem], by first | (simp; done) | (simp; omega)⟩ hb1
  have x5 : FBox w1 (w.heap.size + 1) (.string ⟨d.1.toArray⟩) (.string ⟨d.2.toArray⟩) := FBox.below ⟨by simp [go_sem], by simp [go_sem], by simp [go_sem], by simp [go_sem], by first | (simp; done) | (simp; omega)⟩ hb1
  have x6 : FBox w1 (w.heap.size + 2) (.string ⟨f.1.toArray⟩) (.string ⟨f.2.toArray⟩) := FBox.below ⟨by simp [go_sem], by simp [go_sem], by simp [go_sem], by simp [go_sem], by first | (simp; done) | (simp; omega)⟩ hb1
  have x7 : FBox w1 (w.heap.size + 3) (.string ⟨y.1.toArray⟩) (.string ⟨y.2.toArray⟩) := FBox.below ⟨by simp [go_sem], by simp [go_sem], by simp [go_sem], by simp [go_sem], by first | (simp; done) | (simp; omega)⟩ hb1
  have z8 : w1.heap[w.heap.size + 4]? = some (.cells #[.string ⟨#[]⟩, .string ⟨#[]⟩] 25) := (hb1.block _ (by first | (simp; done) | (simp; omega))).trans (by simp [World.alloc, Array.getElem_push, -World.alloc_eq])
  have hb : Below w.heap.size w w1 := bto (bto (bto (bto (bto (bto (below_alloc _ _) (below_alloc _ _)) (below_alloc _ _)) (below_alloc _ _)) (below_alloc _ _)) (below_alloc _ _)) hb1
  have n4 : ¬ (w.heap.size = w.heap.size + 4) := by omega
  have n5 : ¬ (w.heap.size + 1 = w.heap.size + 4) := by omega
  have n6 : ¬ (w.heap.size + 2 = w.heap.size + 4) := by omega
  have n7 : ¬ (w.heap.size + 3 = w.heap.size + 4) := by omega
  clear hb1
  by_cases gC : [s, d, f, y].all canB = true
  rotate_left
  · have q0 := (FBox.ofB z8).c0
    have q1 := (FBox.ofB z8).c1
    have q2 := (FBox.ofB z8).f0
    have q3 := (FBox.ofB z8).f1
    have HV : Hid (fairV s d f y = (0, 1)) := by show _ = _; unfold fairV; rw [if_pos gC]
    rw [not_true_b gC]
    clear gC
    go_wp2
    have hy := (FBox.ofB z8).set (.string ⟨#[]⟩) (.string ⟨#[]⟩)
    have d0 := hy.c0
    have d1 := hy.c1
    refine bodyPost_ret (v := .tuple #[.agg #[.string ⟨#[]⟩, .string ⟨#[]⟩], .int .i64 1]) (by simp [results, Tryz.results28, go_sem, d0, d1]) rfl ?_
    exact ⟨ret0 HV.out, below_set2 (b := w.heap.size + 4) hb (by omega) _ _⟩
  rw [gC]
  have HC := Lib.hid gC
  clear gC
  by_cases gy : fv y.1 y.2 < 0
  · have ty : decide (fv y.1 y.2 < 0) = true := decide_eq_true gy
    rw [ty] at SN
    go_wp2_with fail
    refine wp_region_gain (by kernel_rfl) (by kernel_rfl) ?_
    refine gain_val _ (fun _ => rfl) (fun ρ w hw => by have q0 := (x7.below hw).c0; have q1 := (x7.below hw).c1; go_simp; first | done | with_reducible rfl) ?_
    simp only [Act.put, List.setIfInBounds_toArray, List.set_cons_zero, List.set_cons_succ, Nat.reduceAdd]
    refine gain_call _ _ _ (fun _ => rfl) (fun ρ w hw => by go_simp; first | done | with_reducible rfl) (fun w hw => SN.out.of hG (bto hb hw)) ?_
    simp only [Act.put, List.setIfInBounds_toArray, List.set_cons_zero, List.set_cons_succ, Nat.reduceAdd]
    refine gain_val _ (fun _ => rfl) (fun ρ w hw => by go_simp; first | done | with_reducible rfl) ?_
    simp only [Act.put, List.setIfInBounds_toArray, List.set_cons_zero, List.set_cons_succ, Nat.reduceAdd]
    refine gain_off (fun _ => rfl) ?_
    simp only [Act.put, List.setIfInBounds_toArray, List.set_cons_zero, List.set_cons_succ, Nat.reduceAdd]
    refine gain_off (fun _ => rfl) ?_
    simp only [Act.put, List.setIfInBounds_toArray, List.set_cons_zero, List.set_cons_succ, Nat.reduceAdd]
    refine gain_off (fun _ => rfl) ?_
    simp only [Act.put, List.setIfInBounds_toArray, List.set_cons_zero, List.set_cons_succ, Nat.reduceAdd]
    refine gain_off (fun _ => rfl) ?_
    simp only [Act.put, List.setIfInBounds_toArray, List.set_cons_zero, List.set_cons_succ, Nat.reduceAdd]
    refine gain_off (fun _ => rfl) ?_
    simp only [Act.put, List.setIfInBounds_toArray, List.set_cons_zero, List.set_cons_succ, Nat.reduceAdd]
    refine gain_off (fun _ => rfl) ?_
    simp only [Act.put, List.setIfInBounds_toArray, List.set_cons_zero, List.set_cons_succ, Nat.reduceAdd]
    refine gain_off (fun _ => rfl) ?_
    simp only [Act.put, List.setIfInBounds_toArray, List.set_cons_zero, List.set_cons_succ, Nat.reduceAdd]
    refine gain_off (fun _ => rfl) ?_
    simp only [Act.put, List.setIfInBounds_toArray, List.set_cons_zero, List.set_cons_succ, Nat.reduceAdd]
    refine gain_off (fun _ => rfl) ?_
    simp only [Act.put, List.setIfInBounds_toArray, List.set_cons_zero, List.set_cons_succ, Nat.reduceAdd]
    refine gain_off (fun _ => rfl) ?_
    simp only [Act.put, List.setIfInBounds_toArray, List.set_cons_zero, List.set_cons_succ, Nat.reduceAdd]
    refine gain_val _ (fun _ => rfl) (fun ρ w hw => by go_simp; first | done | with_reducible rfl) ?_
    simp only [Act.put, List.setIfInBounds_toArray, List.set_cons_zero, List.set_cons_succ, Nat.reduceAdd]
    intro ρ w2 hF
    replace x4 := x4.below hF.below
    replace x5 := x5.below hF.below
    replace x6 := x6.below hF.below
    replace x7 := x7.below hF.below
    replace z8 := (hF.below.block _ (Array.getElem?_eq_some_iff.1 z8).1).trans z8
    replace hb := bto hb hF.below
    clear hF
    have q0 := (FBox.ofB z8).c0
    have q1 := (FBox.ofB z8).c1
    have q2 := (FBox.ofB z8).f0
    have q3 := (FBox.ofB z8).f1
    have HV : Hid (fairV s d f y = (0, 2)) := by show _ = _; unfold fairV; rw [if_neg (fun h => h HC.out), if_pos (by rw [fair_eq, ty]; rfl)]
    clear gy ty
    go_wp2
    have hy := (FBox.ofB z8).set (.string ⟨#[]⟩) (.string ⟨#[]⟩)
    have d0 := hy.c0
    have d1 := hy.c1
    refine bodyPost_ret (v := .tuple #[.agg #[.string ⟨#[]⟩, .string ⟨#[]⟩], .int .i64 2]) (by simp [results, Tryz.results28, go_sem, d0, d1]) rfl ?_
    exact ⟨ret0 HV.out, below_set2 (b := w.heap.size + 4) hb (by omega) _ _⟩
  have ty : decide (fv y.1 y.2 < 0) = false := decide_eq_false gy
  rw [ty] at SN
  have HB : Hid (fairB s d f y = !([s, (fN (upQ d y), fD (upQ d y)), (fN (upQ f y), fD (upQ f y))].all posB)) := by show _ = _; rw [fair_eq, ty]; rfl
  obtain ⟨T, hT⟩ : ∃ T, [s, (fN (upQ d y), fD (upQ d y)), (fN (upQ f y), fD (upQ f y))].all posB = T := ⟨_, rfl⟩
  have HT := Lib.hid hT
  clear hT gy ty
  go_wp2_with fail
  refine wp_region_gain (by kernel_rfl) (by kernel_rfl) ?_
  refine gain_val _ (fun _ => rfl) (fun ρ w hw => by have q0 := (x7.below hw).c0; have q1 := (x7.below hw).c1; go_simp; first | done | with_reducible rfl) ?_
  simp only [Act.put, List.setIfInBounds_toArray, List.set_cons_zero, List.set_cons_succ, Nat.reduceAdd]
  refine gain_call _ _ _ (fun _ => rfl) (fun ρ w hw => by go_simp; first | done | with_reducible rfl) (fun w hw => SN.out.of hG (bto hb hw)) ?_
  simp only [Act.put, List.setIfInBounds_toArray, List.set_cons_zero, List.set_cons_succ, Nat.reduceAdd]
  refine gain_val _ (fun _ => rfl) (fun ρ w hw => by go_simp; first | done | with_reducible rfl) ?_
  simp only [Act.put, List.setIfInBounds_toArray, List.set_cons_zero, List.set_cons_succ, Nat.reduceAdd]
  refine gain_val _ (fun _ => rfl) (fun ρ w hw => by have q0 := (x4.below hw).c0; have q1 := (x4.below hw).c1; go_simp; first | done | with_reducible rfl) ?_
  simp only [Act.put, List.setIfInBounds_toArray, List.set_cons_zero, List.set_cons_succ, Nat.reduceAdd]
  refine gain_val _ (fun _ => rfl) (fun ρ w hw => by have q0 := (x5.below hw).c0; have q1 := (x5.below hw).c1; go_simp; first | done | with_reducible rfl) ?_
  simp only [Act.put, List.setIfInBounds_toArray, List.set_cons_zero, List.set_cons_succ, Nat.reduceAdd]
  refine gain_val _ (fun _ => rfl) (fun ρ w hw => by have q0 := (x7.below hw).c0; have q1 := (x7.below hw).c1; go_simp; first | done | with_reducible rfl) ?_
  simp only [Act.put, List.setIfInBounds_toArray, List.set_cons_zero, List.set_cons_succ, Nat.reduceAdd]
  refine gain_call _ _ _ (fun _ => rfl) (fun ρ w hw => by go_simp; first | done | with_reducible rfl) (fun w hw => Gu1.out.of hG (bto hb hw)) ?_
  simp only [Act.put, List.setIfInBounds_toArray, List.set_cons_zero, List.set_cons_succ, Nat.reduceAdd]
  refine gain_val _ (fun _ => rfl) (fun ρ w hw => by have q0 := (x6.below hw).c0; have q1 := (x6.below hw).c1; go_simp; first | done | with_reducible rfl) ?_
  simp only [Act.put, List.setIfInBounds_toArray, List.set_cons_zero, List.set_cons_succ, Nat.reduceAdd]
  refine gain_val _ (fun _ => rfl) (fun ρ w hw => by have q0 := (x7.below hw).c0; have q1 := (x7.below hw).c1; go_simp; first | done | with_reducible rfl) ?_
  simp only [Act.put, List.setIfInBounds_toArray, List.set_cons_zero, List.set_cons_succ, Nat.reduceAdd]
  refine gain_call _ _ _ (fun _ => rfl) (fun ρ w hw => by go_simp; first | done | with_reducible rfl) (fun w hw => Gu2.out.of hG (bto hb hw)) ?_
  simp only [Act.put, List.setIfInBounds_toArray, List.set_cons_zero, List.set_cons_succ, Nat.reduceAdd]
  refine gain_box (fun b => .slice (some ⟨b, 0, none⟩) 3 3) (.cells (cellsF [s, (fN (upQ d y), fD (upQ d y)), (fN (upQ f y), fD (upQ f y))]).toArray 25) rfl (fun _ => rfl) (fun ρ w hw => by go_simp; first | done | rfl) ?_
  simp only [Act.put, List.setIfInBounds_toArray, List.set_cons_zero, List.set_cons_succ, Nat.reduceAdd]
  refine gain_callN 10 _ (.bool T) _ 28 rfl rfl rfl (by decide) (fun _ => rfl) (fun ρ w hw ⟨b, e, h⟩ => ⟨84, #[.slice (some ⟨b, 0, none⟩) 3 3], by simp only [e]; go_simp; first | done | with_reducible rfl, by rw [← HT.out]; exact CP.out w (bto hb hw) b h⟩) ?_
  simp only [Act.put, List.setIfInBounds_toArray, List.set_cons_zero, List.set_cons_succ, Nat.reduceAdd]
  refine gain_val _ (fun _ => rfl) (fun ρ w hw => by go_simp; first | done | with_reducible rfl) ?_
  simp only [Act.put, List.setIfInBounds_toArray, List.set_cons_zero, List.set_cons_succ, Nat.reduceAdd]
  refine gain_val _ (fun _ => rfl) (fun ρ w hw => by go_simp; first | done | with_reducible rfl) ?_
  simp only [Act.put, List.setIfInBounds_toArray, List.set_cons_zero, List.set_cons_succ, Nat.reduceAdd]
  intro ρ w2 hF
  replace x4 := x4.below hF.below
  replace x5 := x5.below hF.below
  replace x6 := x6.below hF.below
  replace x7 := x7.below hF.below
  replace z8 := (hF.below.block _ (Array.getElem?_eq_some_iff.1 z8).1).trans z8
  replace hb := bto hb hF.below
  clear hF
  cases T with
  | false =>
    have q0 := (FBox.ofB z8).c0
    have q1 := (FBox.ofB z8).c1
    have q2 := (FBox.ofB z8).f0
    have q3 := (FBox.ofB z8).f1
    have HV : Hid (fairV s d f y = (0, 2)) := by show _ = _; unfold fairV; rw [if_neg (fun h => h HC.out), if_pos (by rw [HB.out, HT.out]; rfl)]
    skip
    go_wp2
    have hy := (FBox.ofB z8).set (.string ⟨#[]⟩) (.string ⟨#[]⟩)
    have d0 := hy.c0
    have d1 := hy.c1
    refine bodyPost_ret (v := .tuple #[.agg #[.string ⟨#[]⟩, .string ⟨#[]⟩], .int .i64 2]) (by simp [results, Tryz.results28, go_sem, d0, d1]) rfl ?_
    exact ⟨ret0 HV.out, below_set2 (b := w.heap.size + 4) hb (by omega) _ _⟩
  | true =>
    have HN : Hid (¬ fairB s d f y = true) := by show ¬ _; rw [HB.out, HT.out]; decide
    have HA := HT.out
    simp only [List.all_cons, List.all_nil, Bool.and_true, Bool.and_eq_true, posB, fv_frac, decide_eq_true_eq] at HA
    have h0d : upQ f y ≠ 0 := fun h => absurd HA.2.2 (by rw [h]; exact Rat.lt_irrefl)
    replace CQ := Lib.hid (CQ.out h0d)
    have HV : Hid (fairV s d f y = (fv s.1 s.2 * upQ d y / upQ f y, 0)) := by show _ = _; unfold fairV; rw [if_neg (fun h => h HC.out), if_neg HN.out]
    clear h0d HA HT HB HN CP SN
    generalize fv s.1 s.2 * upQ d y / upQ f y = QN at *
    generalize fv s.1 s.2 * upQ d y = MN at *
    generalize upQ d y = U1 at *
    generalize upQ f y = U2 at *
    have hX : ∀ k, k = w.heap.size + 4 → w.heap.size ≤ k := by rintro k rfl; omega
    have nx4 := n4
    have nx5 := n5
    have nx6 := n6
    have nx7 := n7
    go_wp2_with fail
    refine wp_region_kept_one 40 (w.heap.size + 4) 8 _ (by kernel_rfl) (by kernel_rfl) (by decide) z8 rfl ?_
    simp only [Act.put, List.setIfInBounds_toArray, List.set_cons_zero, List.set_cons_succ]
    refine kept_val _ (fun _ => rfl) (fun ρ w hw => by have q0 := (x4.keepX hw nx4).c0; have q1 := (x4.keepX hw nx4).c1; go_simp; first | done | with_reducible rfl) ?_
    simp only [Act.put, List.setIfInBounds_toArray, List.set_cons_zero, List.set_cons_succ, Nat.reduceAdd]
    refine kept_val _ (fun _ => rfl) (fun ρ w hw => by have q0 := (x5.keepX hw nx5).c0; have q1 := (x5.keepX hw nx5).c1; go_simp; first | done | with_reducible rfl) ?_
    simp only [Act.put, List.setIfInBounds_toArray, List.set_cons_zero, List.set_cons_succ, Nat.reduceAdd]
    refine kept_val _ (fun _ => rfl) (fun ρ w hw => by have q0 := (x7.keepX hw nx7).c0; have q1 := (x7.keepX hw nx7).c1; go_simp; first | done | with_reducible rfl) ?_
    simp only [Act.put, List.setIfInBounds_toArray, List.set_cons_zero, List.set_cons_succ, Nat.reduceAdd]
    refine kept_call _ _ _ (fun _ => rfl) (fun ρ w hw => by go_simp; first | done | with_reducible rfl) (fun w hw => Gu1.out.of hG (hw.lower hb hX)) ?_
    simp only [Act.put, List.setIfInBounds_toArray, List.set_cons_zero, List.set_cons_succ, Nat.reduceAdd]
    refine kept_call _ _ _ (fun _ => rfl) (fun ρ w hw => by go_simp; first | done | with_reducible rfl) (fun w hw => CM.out.of hG (hw.lower hb hX)) ?_
    simp only [Act.put, List.setIfInBounds_toArray, List.set_cons_zero, List.set_cons_succ, Nat.reduceAdd]
    refine kept_val _ (fun _ => rfl) (fun ρ w hw => by have q0 := (x6.keepX hw nx6).c0; have q1 := (x6.keepX hw nx6).c1; go_simp; first | done | with_reducible rfl) ?_
    simp only [Act.put, List.setIfInBounds_toArray, List.set_cons_zero, List.set_cons_succ, Nat.reduceAdd]
    refine kept_val _ (fun _ => rfl) (fun ρ w hw => by have q0 := (x7.keepX hw nx7).c0; have q1 := (x7.keepX hw nx7).c1; go_simp; first | done | with_reducible rfl) ?_
    simp only [Act.put, List.setIfInBounds_toArray, List.set_cons_zero, List.set_cons_succ, Nat.reduceAdd]
    refine kept_call _ _ _ (fun _ => rfl) (fun ρ w hw => by go_simp; first | done | with_reducible rfl) (fun w hw => Gu2.out.of hG (hw.lower hb hX)) ?_
    simp only [Act.put, List.setIfInBounds_toArray, List.set_cons_zero, List.set_cons_succ, Nat.reduceAdd]
    refine kept_call _ _ _ (fun _ => rfl) (fun ρ w hw => by go_simp; first | done | with_reducible rfl) (fun w hw => CQ.out.of hG (hw.lower hb hX)) ?_
    iterate 2
      simp only [Act.put, List.setIfInBounds_toArray, List.set_cons_zero, List.set_cons_succ, Nat.reduceAdd]
      refine kept_val _ (fun _ => rfl) (fun ρ w hw => by go_simp; first | done | with_reducible rfl) ?_
    simp only [Act.put, List.setIfInBounds_toArray, List.set_cons_zero, List.set_cons_succ, Nat.reduceAdd]
    refine kept_putK 40 _ _ _ _ _ rfl rfl (fun _ => rfl) (fun ρ w hw q0 q1 q2 q3 => by go_simp; first | done | with_reducible rfl) ?_
    simp only [Act.put, Nat.reduceAdd]
    refine kept_val _ (fun _ => rfl) (fun ρ w hw => by go_simp; first | done | with_reducible rfl) ?_
    simp only [Act.put, List.setIfInBounds_toArray, List.set_cons_zero, List.set_cons_succ, Nat.reduceAdd]
    refine kept_endX (fun ρ w90 hF => ?_)
    have hb9 := hF.below.lower hb hX
    have t8 := FBox.ofB (hF.box 40 _ _ rfl).2
    generalize ρ 40 = c8 at *
    clear hF
    have d0 := t8.c0
    have d1 := t8.c1
    go_wp2
    refine bodyPost_ret (v := .tuple #[(Value.agg #[Value.string ⟨List.toArray (fN QN)⟩, Value.string ⟨List.toArray (fD QN)⟩]), .int .i64 0]) (by simp [results, Tryz.results28, go_sem, d0, d1]) rfl ?_
    exact ⟨retq HV.out, hb9⟩
set_option maxHeartbeats 8000000 in
set_option maxRecDepth 100000 in
theorem jImplied (s r d y : Fp2) (hs : s.1.length ≤ 20 ∧ s.2.length ≤ 20) (hr : r.1.length ≤ 20 ∧ r.2.length ≤ 20) (hd : d.1.length ≤ 20 ∧ d.2.length ≤ 20) (hy : y.1.length ≤ 20 ∧ y.2.length ≤ 20) : Ret 30 #[(Value.agg #[Value.string ⟨List.toArray (s.1)⟩, Value.string ⟨List.toArray (s.2)⟩]), (Value.agg #[Value.string ⟨List.toArray (r.1)⟩, Value.string ⟨List.toArray (r.2)⟩]), (Value.agg #[Value.string ⟨List.toArray (d.1)⟩, Value.string ⟨List.toArray (d.2)⟩]), (Value.agg #[Value.string ⟨List.toArray (y.1)⟩, Value.string ⟨List.toArray (y.2)⟩])] (.tuple #[(Value.agg #[Value.string ⟨List.toArray (fN ((impV s r d y).1))⟩, Value.string ⟨List.toArray (fD ((impV s r d y).1))⟩]), .int .i64 (impV s r d y).2]) := fun w hG => by
  have i_s := isj_p hs (by decide)
  have b_s : Bd 20 (fv s.1 s.2) := bd_of hs (by decide)
  have i_r := isj_p hr (by decide)
  have b_r : Bd 20 (fv r.1 r.2) := bd_of hr (by decide)
  have i_d := isj_p hd (by decide)
  have b_d : Bd 20 (fv d.1 d.2) := bd_of hd (by decide)
  have i_y := isj_p hy (by decide)
  have b_y : Bd 20 (fv y.1 y.2) := bd_of hy (by decide)
  have bu1 : Bd 42 (upQ d y) := bd_up hd hy (by decide) (by decide)
  have lu1 := bd_len bu1
  have iu1 := isj_fr bu1 (by decide)
  have Gu1 := Lib.hid (jGrow i_d i_y (bd_mul b_d b_y) (by decide) (r := upQ d y) rfl)
  have SN := Lib.hid (jNegative i_y)
  have bm : Bd 62 (fv s.1 s.2 * upQ d y) := bd_mul b_s bu1
  have CM := Lib.hid (tMul i_s iu1 (r := fv s.1 s.2 * upQ d y) rfl)
  have bq : Bd 82 (fv s.1 s.2 * upQ d y / fv r.1 r.2) := bd_div bm b_r (by decide)
  have CQ := Lib.hid (fun h0 => tQuo (isj_fr bm (by decide)) i_r h0 (r := fv s.1 s.2 * upQ d y / fv r.1 r.2) rfl)
  have CO := Lib.hid (tOf (l := [49]) (by decide) (show val [49] = 1 by decide))
  have b1 : Bd 1 ((1 : Int) : Rat) := by constructor <;> decide
  have bs1 : Bd 84 (fv s.1 s.2 * upQ d y / fv r.1 r.2 - ((1 : Int) : Rat)) := bd_sub bq b1
  have CS := Lib.hid (tSub (isj_fr bq (by decide)) (isj_fr b1 (by decide)) b1 (by decide) (r := fv s.1 s.2 * upQ d y / fv r.1 r.2 - ((1 : Int) : Rat)) rfl)
  have CR := Lib.hid (fun h0 => tQuo (isj_fr bs1 (by decide)) i_y h0 (r := (fv s.1 s.2 * upQ d y / fv r.1 r.2 - ((1 : Int) : Rat)) / fv y.1 y.2) rfl)
  have CR0 := Lib.hid (fun h0 => tQuo0 (isj_fr bs1 (by decide)) i_y h0)
  have CP := Lib.hid (fun (w' : World) (hb : Below w.heap.size w w') (b : Nat) (h : w'.heap[b]? = some (.cells (cellsF [s, r, (fN (upQ d y), fD (upQ d y))]).toArray 25 (0, 0))) => jPosL (some ⟨b, 0, none⟩) [s, r, (fN (upQ d y), fD (upQ d y))] 3 3 w' (hG.below hb) rfl (by decide) (frAt_blk h) (fun q hq => by
      simp only [List.mem_cons, List.not_mem_nil, or_false] at hq
      rcases hq with rfl | rfl | rfl
      · exact ⟨Nat.le_trans hs.1 (by decide), Nat.le_trans hs.2 (by decide)⟩
      · exact ⟨Nat.le_trans hr.1 (by decide), Nat.le_trans hr.2 (by decide)⟩
      · exact ⟨Nat.le_trans lu1.1 (by decide), Nat.le_trans lu1.2 (by decide)⟩))
  clear i_s b_s i_r b_r i_d b_d i_y b_y iu1 bu1 lu1 bm bq b1 bs1
  go_enter Tryz.func30, Tryz.ntmps30
  go_wp2_with fail
  refine (jCanonL _ [s, r, d, y] 4 4 _ (hG.below (bto (bto (bto (bto (bto (below_alloc _ _) (below_alloc _ _)) (below_alloc _ _)) (below_alloc _ _)) (below_alloc _ _)) (below_alloc _ _))) rfl (by decide) (frAt_of (by first | (simp; done) | (simp; omega)) (fun i hi => by
    have hi : i = 0 ∨ i = 1 ∨ i = 2 ∨ i = 3 := by simp at hi; omega
    rcases hi with rfl | rfl | rfl | rfl <;> simp [go_sem])) (fun q hq => by
    simp only [List.mem_cons, List.not_mem_nil, or_false] at hq
    rcases hq with rfl | rfl | rfl | rfl
    · exact ⟨Nat.le_trans hs.1 (by decide), Nat.le_trans hs.2 (by decide)⟩
    · exact ⟨Nat.le_trans hr.1 (by decide), Nat.le_trans hr.2 (by decide)⟩
    · exact ⟨Nat.le_trans hd.1 (by decide), Nat.le_trans hd.2 (by decide)⟩
    · exact ⟨Nat.le_trans hy.1 (by decide), Nat.le_trans hy.2 (by decide)⟩)).mono ?_
  rintro e w1 ⟨rfl, hb1⟩
  have x4 : FBox w1 (w.heap.size) (.string ⟨s.1.toArray⟩) (.string ⟨s.2.toArray⟩) := FBox.below ⟨by simp [go_sem], by simp [go_sem], by simp [go_sem], by simp [go_sem], by first | (simp; done) | (simp; omega)⟩ hb1
  have x5 : FBox w1 (w.heap.size + 1) (.string ⟨r.1.toArray⟩) (.string ⟨r.2.toArray⟩) := FBox.below ⟨by simp [go_sem], by simp [go_sem], by simp [go_sem], by simp [go_sem], by first | (simp; done) | (simp; omega)⟩ hb1
  have x6 : FBox w1 (w.heap.size + 2) (.string ⟨d.1.toArray⟩) (.string ⟨d.2.toArray⟩) := FBox.below ⟨by simp [go_sem], by simp [go_sem], by simp [go_sem], by simp [go_sem], by first | (simp; done) | (simp; omega)⟩ hb1
  have x7 : FBox w1 (w.heap.size + 3) (.string ⟨y.1.toArray⟩) (.string ⟨y.2.toArray⟩) := FBox.below ⟨by simp [go_sem], by simp [go_sem], by simp [go_sem], by simp [go_sem], by first | (simp; done) | (simp; omega)⟩ hb1
  have z8 : w1.heap[w.heap.size + 4]? = some (.cells #[.string ⟨#[]⟩, .string ⟨#[]⟩] 25) := (hb1.block _ (by first | (simp; done) | (simp; omega))).trans (by simp [World.alloc, Array.getElem_push, -World.alloc_eq])
  have hb : Below w.heap.size w w1 := bto (bto (bto (bto (bto (bto (below_alloc _ _) (below_alloc _ _)) (below_alloc _ _)) (below_alloc _ _)) (below_alloc _ _)) (below_alloc _ _)) hb1
  have n4 : ¬ (w.heap.size = w.heap.size + 4) := by omega
  have n5 : ¬ (w.heap.size + 1 = w.heap.size + 4) := by omega
  have n6 : ¬ (w.heap.size + 2 = w.heap.size + 4) := by omega
  have n7 : ¬ (w.heap.size + 3 = w.heap.size + 4) := by omega
  clear hb1
  by_cases gC : [s, r, d, y].all canB = true
  rotate_left
  · have q0 := (FBox.ofB z8).c0
    have q1 := (FBox.ofB z8).c1
    have q2 := (FBox.ofB z8).f0
    have q3 := (FBox.ofB z8).f1
    have HV : Hid (impV s r d y = (0, 1)) := by show _ = _; unfold impV; rw [if_pos gC]
    rw [not_true_b gC]
    clear gC
    go_wp2
    have hy := (FBox.ofB z8).set (.string ⟨#[]⟩) (.string ⟨#[]⟩)
    have d0 := hy.c0
    have d1 := hy.c1
    refine bodyPost_ret (v := .tuple #[.agg #[.string ⟨#[]⟩, .string ⟨#[]⟩], .int .i64 1]) (by simp [results, Tryz.results30, go_sem, d0, d1]) rfl ?_
    exact ⟨ret0 HV.out, below_set2 (b := w.heap.size + 4) hb (by omega) _ _⟩
  rw [gC]
  have HC := Lib.hid gC
  clear gC
  by_cases gy : fv y.1 y.2 < 0
  · have ty : decide (fv y.1 y.2 < 0) = true := decide_eq_true gy
    rw [ty] at SN
    go_wp2_with fail
    refine wp_region_gain (by kernel_rfl) (by kernel_rfl) ?_
    refine gain_val _ (fun _ => rfl) (fun ρ w hw => by have q0 := (x7.below hw).c0; have q1 := (x7.below hw).c1; go_simp; first | done | with_reducible rfl) ?_
    simp only [Act.put, List.setIfInBounds_toArray, List.set_cons_zero, List.set_cons_succ, Nat.reduceAdd]
    refine gain_call _ _ _ (fun _ => rfl) (fun ρ w hw => by go_simp; first | done | with_reducible rfl) (fun w hw => SN.out.of hG (bto hb hw)) ?_
    simp only [Act.put, List.setIfInBounds_toArray, List.set_cons_zero, List.set_cons_succ, Nat.reduceAdd]
    refine gain_val _ (fun _ => rfl) (fun ρ w hw => by go_simp; first | done | with_reducible rfl) ?_
    simp only [Act.put, List.setIfInBounds_toArray, List.set_cons_zero, List.set_cons_succ, Nat.reduceAdd]
    refine gain_off (fun _ => rfl) ?_
    simp only [Act.put, List.setIfInBounds_toArray, List.set_cons_zero, List.set_cons_succ, Nat.reduceAdd]
    refine gain_off (fun _ => rfl) ?_
    simp only [Act.put, List.setIfInBounds_toArray, List.set_cons_zero, List.set_cons_succ, Nat.reduceAdd]
    refine gain_off (fun _ => rfl) ?_
    simp only [Act.put, List.setIfInBounds_toArray, List.set_cons_zero, List.set_cons_succ, Nat.reduceAdd]
    refine gain_off (fun _ => rfl) ?_
    simp only [Act.put, List.setIfInBounds_toArray, List.set_cons_zero, List.set_cons_succ, Nat.reduceAdd]
    refine gain_off (fun _ => rfl) ?_
    simp only [Act.put, List.setIfInBounds_toArray, List.set_cons_zero, List.set_cons_succ, Nat.reduceAdd]
    refine gain_off (fun _ => rfl) ?_
    simp only [Act.put, List.setIfInBounds_toArray, List.set_cons_zero, List.set_cons_succ, Nat.reduceAdd]
    refine gain_off (fun _ => rfl) ?_
    simp only [Act.put, List.setIfInBounds_toArray, List.set_cons_zero, List.set_cons_succ, Nat.reduceAdd]
    refine gain_off (fun _ => rfl) ?_
    simp only [Act.put, List.setIfInBounds_toArray, List.set_cons_zero, List.set_cons_succ, Nat.reduceAdd]
    refine gain_val _ (fun _ => rfl) (fun ρ w hw => by go_simp; first | done | with_reducible rfl) ?_
    simp only [Act.put, List.setIfInBounds_toArray, List.set_cons_zero, List.set_cons_succ, Nat.reduceAdd]
    intro ρ w2 hF
    replace x4 := x4.below hF.below
    replace x5 := x5.below hF.below
    replace x6 := x6.below hF.below
    replace x7 := x7.below hF.below
    replace z8 := (hF.below.block _ (Array.getElem?_eq_some_iff.1 z8).1).trans z8
    replace hb := bto hb hF.below
    clear hF
    have q0 := (FBox.ofB z8).c0
    have q1 := (FBox.ofB z8).c1
    have q2 := (FBox.ofB z8).f0
    have q3 := (FBox.ofB z8).f1
    have HV : Hid (impV s r d y = (0, 2)) := by show _ = _; unfold impV; rw [if_neg (fun h => h HC.out), if_pos (by rw [imp_eq, ty]; rfl)]
    clear gy ty
    go_wp2
    have hy := (FBox.ofB z8).set (.string ⟨#[]⟩) (.string ⟨#[]⟩)
    have d0 := hy.c0
    have d1 := hy.c1
    refine bodyPost_ret (v := .tuple #[.agg #[.string ⟨#[]⟩, .string ⟨#[]⟩], .int .i64 2]) (by simp [results, Tryz.results30, go_sem, d0, d1]) rfl ?_
    exact ⟨ret0 HV.out, below_set2 (b := w.heap.size + 4) hb (by omega) _ _⟩
  have ty : decide (fv y.1 y.2 < 0) = false := decide_eq_false gy
  rw [ty] at SN
  have HB : Hid (impB s r d y = !([s, r, (fN (upQ d y), fD (upQ d y))].all posB)) := by show _ = _; rw [imp_eq, ty]; rfl
  obtain ⟨T, hT⟩ : ∃ T, [s, r, (fN (upQ d y), fD (upQ d y))].all posB = T := ⟨_, rfl⟩
  have HT := Lib.hid hT
  clear hT gy ty
  go_wp2_with fail
  refine wp_region_gain (by kernel_rfl) (by kernel_rfl) ?_
  refine gain_val _ (fun _ => rfl) (fun ρ w hw => by have q0 := (x7.below hw).c0; have q1 := (x7.below hw).c1; go_simp; first | done | with_reducible rfl) ?_
  simp only [Act.put, List.setIfInBounds_toArray, List.set_cons_zero, List.set_cons_succ, Nat.reduceAdd]
  refine gain_call _ _ _ (fun _ => rfl) (fun ρ w hw => by go_simp; first | done | with_reducible rfl) (fun w hw => SN.out.of hG (bto hb hw)) ?_
  simp only [Act.put, List.setIfInBounds_toArray, List.set_cons_zero, List.set_cons_succ, Nat.reduceAdd]
  refine gain_val _ (fun _ => rfl) (fun ρ w hw => by go_simp; first | done | with_reducible rfl) ?_
  simp only [Act.put, List.setIfInBounds_toArray, List.set_cons_zero, List.set_cons_succ, Nat.reduceAdd]
  refine gain_val _ (fun _ => rfl) (fun ρ w hw => by have q0 := (x4.below hw).c0; have q1 := (x4.below hw).c1; go_simp; first | done | with_reducible rfl) ?_
  simp only [Act.put, List.setIfInBounds_toArray, List.set_cons_zero, List.set_cons_succ, Nat.reduceAdd]
  refine gain_val _ (fun _ => rfl) (fun ρ w hw => by have q0 := (x5.below hw).c0; have q1 := (x5.below hw).c1; go_simp; first | done | with_reducible rfl) ?_
  simp only [Act.put, List.setIfInBounds_toArray, List.set_cons_zero, List.set_cons_succ, Nat.reduceAdd]
  refine gain_val _ (fun _ => rfl) (fun ρ w hw => by have q0 := (x6.below hw).c0; have q1 := (x6.below hw).c1; go_simp; first | done | with_reducible rfl) ?_
  simp only [Act.put, List.setIfInBounds_toArray, List.set_cons_zero, List.set_cons_succ, Nat.reduceAdd]
  refine gain_val _ (fun _ => rfl) (fun ρ w hw => by have q0 := (x7.below hw).c0; have q1 := (x7.below hw).c1; go_simp; first | done | with_reducible rfl) ?_
  simp only [Act.put, List.setIfInBounds_toArray, List.set_cons_zero, List.set_cons_succ, Nat.reduceAdd]
  refine gain_call _ _ _ (fun _ => rfl) (fun ρ w hw => by go_simp; first | done | with_reducible rfl) (fun w hw => Gu1.out.of hG (bto hb hw)) ?_
  simp only [Act.put, List.setIfInBounds_toArray, List.set_cons_zero, List.set_cons_succ, Nat.reduceAdd]
  refine gain_box (fun b => .slice (some ⟨b, 0, none⟩) 3 3) (.cells (cellsF [s, r, (fN (upQ d y), fD (upQ d y))]).toArray 25) rfl (fun _ => rfl) (fun ρ w hw => by go_simp; first | done | rfl) ?_
  simp only [Act.put, List.setIfInBounds_toArray, List.set_cons_zero, List.set_cons_succ, Nat.reduceAdd]
  refine gain_callN 8 _ (.bool T) _ 28 rfl rfl rfl (by decide) (fun _ => rfl) (fun ρ w hw ⟨b, e, h⟩ => ⟨84, #[.slice (some ⟨b, 0, none⟩) 3 3], by simp only [e]; go_simp; first | done | with_reducible rfl, by rw [← HT.out]; exact CP.out w (bto hb hw) b h⟩) ?_
  simp only [Act.put, List.setIfInBounds_toArray, List.set_cons_zero, List.set_cons_succ, Nat.reduceAdd]
  refine gain_val _ (fun _ => rfl) (fun ρ w hw => by go_simp; first | done | with_reducible rfl) ?_
  simp only [Act.put, List.setIfInBounds_toArray, List.set_cons_zero, List.set_cons_succ, Nat.reduceAdd]
  refine gain_val _ (fun _ => rfl) (fun ρ w hw => by go_simp; first | done | with_reducible rfl) ?_
  simp only [Act.put, List.setIfInBounds_toArray, List.set_cons_zero, List.set_cons_succ, Nat.reduceAdd]
  intro ρ w2 hF
  replace x4 := x4.below hF.below
  replace x5 := x5.below hF.below
  replace x6 := x6.below hF.below
  replace x7 := x7.below hF.below
  replace z8 := (hF.below.block _ (Array.getElem?_eq_some_iff.1 z8).1).trans z8
  replace hb := bto hb hF.below
  clear hF
  cases T with
  | false =>
    have q0 := (FBox.ofB z8).c0
    have q1 := (FBox.ofB z8).c1
    have q2 := (FBox.ofB z8).f0
    have q3 := (FBox.ofB z8).f1
    have HV : Hid (impV s r d y = (0, 2)) := by show _ = _; unfold impV; rw [if_neg (fun h => h HC.out), if_pos (by rw [HB.out, HT.out]; rfl)]
    skip
    go_wp2
    have hy := (FBox.ofB z8).set (.string ⟨#[]⟩) (.string ⟨#[]⟩)
    have d0 := hy.c0
    have d1 := hy.c1
    refine bodyPost_ret (v := .tuple #[.agg #[.string ⟨#[]⟩, .string ⟨#[]⟩], .int .i64 2]) (by simp [results, Tryz.results30, go_sem, d0, d1]) rfl ?_
    exact ⟨ret0 HV.out, below_set2 (b := w.heap.size + 4) hb (by omega) _ _⟩
  | true =>
    have HN : Hid (¬ impB s r d y = true) := by show ¬ _; rw [HB.out, HT.out]; decide
    have HA := HT.out
    simp only [List.all_cons, List.all_nil, Bool.and_true, Bool.and_eq_true, posB, fv_frac, decide_eq_true_eq] at HA
    have h0r : fv r.1 r.2 ≠ 0 := fun h => absurd HA.2.1 (by rw [h]; exact Rat.lt_irrefl)
    replace CQ := Lib.hid (CQ.out h0r)
    clear h0r HA HT HB CP SN
    by_cases gz : fv y.1 y.2 = 0
    · replace CR0 := Lib.hid (CR0.out gz)
      have HV : Hid (impV s r d y = (0, 10)) := by show _ = _; unfold impV; rw [if_neg (fun h => h HC.out), if_neg HN.out, if_pos gz]
      clear gz HN CR
      generalize fv s.1 s.2 * upQ d y / fv r.1 r.2 - ((1 : Int) : Rat) = SN at *
      generalize fv s.1 s.2 * upQ d y / fv r.1 r.2 = RN at *
      generalize fv s.1 s.2 * upQ d y = MN at *
      generalize ((1 : Int) : Rat) = ON at *
      generalize upQ d y = U1 at *
      have hlt9 := (Array.getElem?_eq_some_iff.1 z8).1
      go_wp2_with fail
      refine wp_region_kept (by kernel_rfl) (by kernel_rfl) ?_
      refine kept_val _ (fun _ => rfl) (fun ρ w hw => by have q0 := (x4.below hw).c0; have q1 := (x4.below hw).c1; go_simp; first | done | with_reducible rfl) ?_
      simp only [Act.put, List.setIfInBounds_toArray, List.set_cons_zero, List.set_cons_succ, Nat.reduceAdd]
      refine kept_val _ (fun _ => rfl) (fun ρ w hw => by have q0 := (x6.below hw).c0; have q1 := (x6.below hw).c1; go_simp; first | done | with_reducible rfl) ?_
      simp only [Act.put, List.setIfInBounds_toArray, List.set_cons_zero, List.set_cons_succ, Nat.reduceAdd]
      refine kept_val _ (fun _ => rfl) (fun ρ w hw => by have q0 := (x7.below hw).c0; have q1 := (x7.below hw).c1; go_simp; first | done | with_reducible rfl) ?_
      simp only [Act.put, List.setIfInBounds_toArray, List.set_cons_zero, List.set_cons_succ, Nat.reduceAdd]
      refine kept_call _ _ _ (fun _ => rfl) (fun ρ w hw => by go_simp; first | done | with_reducible rfl) (fun w hw => Gu1.out.of hG (bto hb hw)) ?_
      simp only [Act.put, List.setIfInBounds_toArray, List.set_cons_zero, List.set_cons_succ, Nat.reduceAdd]
      refine kept_call _ _ _ (fun _ => rfl) (fun ρ w hw => by go_simp; first | done | with_reducible rfl) (fun w hw => CM.out.of hG (bto hb hw)) ?_
      simp only [Act.put, List.setIfInBounds_toArray, List.set_cons_zero, List.set_cons_succ, Nat.reduceAdd]
      refine kept_val _ (fun _ => rfl) (fun ρ w hw => by have q0 := (x5.below hw).c0; have q1 := (x5.below hw).c1; go_simp; first | done | with_reducible rfl) ?_
      simp only [Act.put, List.setIfInBounds_toArray, List.set_cons_zero, List.set_cons_succ, Nat.reduceAdd]
      refine kept_call _ _ _ (fun _ => rfl) (fun ρ w hw => by go_simp; first | done | with_reducible rfl) (fun w hw => CQ.out.of hG (bto hb hw)) ?_
      iterate 3
        simp only [Act.put, List.setIfInBounds_toArray, List.set_cons_zero, List.set_cons_succ, Nat.reduceAdd]
        refine kept_val _ (fun _ => rfl) (fun ρ w hw => by go_simp; first | done | with_reducible rfl) ?_
      simp only [Act.put, List.setIfInBounds_toArray, List.set_cons_zero, List.set_cons_succ, Nat.reduceAdd]
      refine kept_box (fun b => .pointer (some ⟨b, 0, none⟩)) _ rfl (fun _ => rfl) (fun ρ w hw => by go_simp; first | done | with_reducible rfl) ?_
      simp only [Act.put, List.setIfInBounds_toArray, List.set_cons_zero, List.set_cons_succ, Nat.reduceAdd]
      refine kept_put2 10 _ 10 _ _ _ _ _ rfl rfl rfl (by decide) (fun _ => rfl) (fun ρ w hw q0 q1 q2 q3 => by go_simp; first | done | with_reducible rfl) ?_
      simp only [Act.put, Nat.reduceAdd]
      refine kept_val _ (fun _ => rfl) (fun ρ w hw => by go_simp; first | done | with_reducible rfl) ?_
      simp only [Act.put, List.setIfInBounds_toArray, List.set_cons_zero, List.set_cons_succ, Nat.reduceAdd]
      refine kept_end (fun ρ w51 hF => ?_)
      replace z8 := (hF.below.block _ (Array.getElem?_eq_some_iff.1 z8).1).trans z8
      replace x4 := x4.below hF.below
      replace x5 := x5.below hF.below
      replace x6 := x6.below hF.below
      replace x7 := x7.below hF.below
      replace hb := bto hb hF.below
      have hge10 := (hF.box 10 _ _ rfl).1
      have x10 := FBox.ofB (hF.box 10 _ _ rfl).2
      generalize ρ 10 = b10 at *
      clear hF
      have nx10 : ¬ (b10 = w.heap.size + 4) := by omega
      have hX : ∀ k, k = w.heap.size + 4 → w.heap.size ≤ k := by rintro k rfl; omega
      have nx4 := n4
      have nx5 := n5
      have nx6 := n6
      have nx7 := n7
      go_wp2_with fail
      refine wp_region_kept_one 40 (w.heap.size + 4) 8 _ (by kernel_rfl) (by kernel_rfl) (by decide) z8 rfl ?_
      simp only [Act.put, List.setIfInBounds_toArray, List.set_cons_zero, List.set_cons_succ]
      refine kept_val _ (fun _ => rfl) (fun ρ w hw => by have q0 := (x10.keepX hw nx10).c0; have q1 := (x10.keepX hw nx10).c1; go_simp; first | done | with_reducible rfl) ?_
      simp only [Act.put, List.setIfInBounds_toArray, List.set_cons_zero, List.set_cons_succ, Nat.reduceAdd]
      refine kept_call _ _ _ (fun _ => rfl) (fun ρ w hw => by go_simp; first | done | with_reducible rfl) (fun w hw => CO.out.of hG (hw.lower hb hX)) ?_
      simp only [Act.put, List.setIfInBounds_toArray, List.set_cons_zero, List.set_cons_succ, Nat.reduceAdd]
      refine kept_call _ _ _ (fun _ => rfl) (fun ρ w hw => by go_simp; first | done | with_reducible rfl) (fun w hw => CS.out.of hG (hw.lower hb hX)) ?_
      simp only [Act.put, List.setIfInBounds_toArray, List.set_cons_zero, List.set_cons_succ, Nat.reduceAdd]
      refine kept_val _ (fun _ => rfl) (fun ρ w hw => by have q0 := (x7.keepX hw nx7).c0; have q1 := (x7.keepX hw nx7).c1; go_simp; first | done | with_reducible rfl) ?_
      simp only [Act.put, List.setIfInBounds_toArray, List.set_cons_zero, List.set_cons_succ, Nat.reduceAdd]
      refine kept_call _ _ _ (fun _ => rfl) (fun ρ w hw => by go_simp; first | done | with_reducible rfl) (fun w hw => CR0.out.of hG (hw.lower hb hX)) ?_
      iterate 2
        simp only [Act.put, List.setIfInBounds_toArray, List.set_cons_zero, List.set_cons_succ, Nat.reduceAdd]
        refine kept_val _ (fun _ => rfl) (fun ρ w hw => by go_simp; first | done | with_reducible rfl) ?_
      simp only [Act.put, List.setIfInBounds_toArray, List.set_cons_zero, List.set_cons_succ, Nat.reduceAdd]
      refine kept_putK 40 _ _ _ _ _ rfl rfl (fun _ => rfl) (fun ρ w hw q0 q1 q2 q3 => by go_simp; first | done | with_reducible rfl) ?_
      simp only [Act.put, Nat.reduceAdd]
      refine kept_val _ (fun _ => rfl) (fun ρ w hw => by go_simp; first | done | with_reducible rfl) ?_
      simp only [Act.put, List.setIfInBounds_toArray, List.set_cons_zero, List.set_cons_succ, Nat.reduceAdd]
      refine kept_endX (fun ρ w90 hF => ?_)
      have hb9 := hF.below.lower hb hX
      have t8 := FBox.ofB (hF.box 40 _ _ rfl).2
      generalize ρ 40 = c8 at *
      clear hF
      have d0 := t8.c0
      have d1 := t8.c1
      go_wp2
      refine bodyPost_ret (v := .tuple #[.agg #[.string ⟨#[]⟩, .string ⟨#[]⟩], .int .i64 10]) (by simp [results, Tryz.results30, go_sem, d0, d1]) rfl ?_
      exact ⟨ret0 HV.out, hb9⟩
    · replace CR := Lib.hid (CR.out gz)
      have HV : Hid (impV s r d y = ((fv s.1 s.2 * upQ d y / fv r.1 r.2 - ((1 : Int) : Rat)) / fv y.1 y.2, 0)) := by show _ = _; unfold impV; rw [if_neg (fun h => h HC.out), if_neg HN.out, if_neg gz]; rfl
      clear gz HN CR0
      generalize (fv s.1 s.2 * upQ d y / fv r.1 r.2 - ((1 : Int) : Rat)) / fv y.1 y.2 = QN at *
      generalize fv s.1 s.2 * upQ d y / fv r.1 r.2 - ((1 : Int) : Rat) = SN at *
      generalize fv s.1 s.2 * upQ d y / fv r.1 r.2 = RN at *
      generalize fv s.1 s.2 * upQ d y = MN at *
      generalize ((1 : Int) : Rat) = ON at *
      generalize upQ d y = U1 at *
      have hlt9 := (Array.getElem?_eq_some_iff.1 z8).1
      go_wp2_with fail
      refine wp_region_kept (by kernel_rfl) (by kernel_rfl) ?_
      refine kept_val _ (fun _ => rfl) (fun ρ w hw => by have q0 := (x4.below hw).c0; have q1 := (x4.below hw).c1; go_simp; first | done | with_reducible rfl) ?_
      simp only [Act.put, List.setIfInBounds_toArray, List.set_cons_zero, List.set_cons_succ, Nat.reduceAdd]
      refine kept_val _ (fun _ => rfl) (fun ρ w hw => by have q0 := (x6.below hw).c0; have q1 := (x6.below hw).c1; go_simp; first | done | with_reducible rfl) ?_
      simp only [Act.put, List.setIfInBounds_toArray, List.set_cons_zero, List.set_cons_succ, Nat.reduceAdd]
      refine kept_val _ (fun _ => rfl) (fun ρ w hw => by have q0 := (x7.below hw).c0; have q1 := (x7.below hw).c1; go_simp; first | done | with_reducible rfl) ?_
      simp only [Act.put, List.setIfInBounds_toArray, List.set_cons_zero, List.set_cons_succ, Nat.reduceAdd]
      refine kept_call _ _ _ (fun _ => rfl) (fun ρ w hw => by go_simp; first | done | with_reducible rfl) (fun w hw => Gu1.out.of hG (bto hb hw)) ?_
      simp only [Act.put, List.setIfInBounds_toArray, List.set_cons_zero, List.set_cons_succ, Nat.reduceAdd]
      refine kept_call _ _ _ (fun _ => rfl) (fun ρ w hw => by go_simp; first | done | with_reducible rfl) (fun w hw => CM.out.of hG (bto hb hw)) ?_
      simp only [Act.put, List.setIfInBounds_toArray, List.set_cons_zero, List.set_cons_succ, Nat.reduceAdd]
      refine kept_val _ (fun _ => rfl) (fun ρ w hw => by have q0 := (x5.below hw).c0; have q1 := (x5.below hw).c1; go_simp; first | done | with_reducible rfl) ?_
      simp only [Act.put, List.setIfInBounds_toArray, List.set_cons_zero, List.set_cons_succ, Nat.reduceAdd]
      refine kept_call _ _ _ (fun _ => rfl) (fun ρ w hw => by go_simp; first | done | with_reducible rfl) (fun w hw => CQ.out.of hG (bto hb hw)) ?_
      iterate 3
        simp only [Act.put, List.setIfInBounds_toArray, List.set_cons_zero, List.set_cons_succ, Nat.reduceAdd]
        refine kept_val _ (fun _ => rfl) (fun ρ w hw => by go_simp; first | done | with_reducible rfl) ?_
      simp only [Act.put, List.setIfInBounds_toArray, List.set_cons_zero, List.set_cons_succ, Nat.reduceAdd]
      refine kept_box (fun b => .pointer (some ⟨b, 0, none⟩)) _ rfl (fun _ => rfl) (fun ρ w hw => by go_simp; first | done | with_reducible rfl) ?_
      simp only [Act.put, List.setIfInBounds_toArray, List.set_cons_zero, List.set_cons_succ, Nat.reduceAdd]
      refine kept_put2 10 _ 10 _ _ _ _ _ rfl rfl rfl (by decide) (fun _ => rfl) (fun ρ w hw q0 q1 q2 q3 => by go_simp; first | done | with_reducible rfl) ?_
      simp only [Act.put, Nat.reduceAdd]
      refine kept_val _ (fun _ => rfl) (fun ρ w hw => by go_simp; first | done | with_reducible rfl) ?_
      simp only [Act.put, List.setIfInBounds_toArray, List.set_cons_zero, List.set_cons_succ, Nat.reduceAdd]
      refine kept_end (fun ρ w51 hF => ?_)
      replace z8 := (hF.below.block _ (Array.getElem?_eq_some_iff.1 z8).1).trans z8
      replace x4 := x4.below hF.below
      replace x5 := x5.below hF.below
      replace x6 := x6.below hF.below
      replace x7 := x7.below hF.below
      replace hb := bto hb hF.below
      have hge10 := (hF.box 10 _ _ rfl).1
      have x10 := FBox.ofB (hF.box 10 _ _ rfl).2
      generalize ρ 10 = b10 at *
      clear hF
      have nx10 : ¬ (b10 = w.heap.size + 4) := by omega
      have hX : ∀ k, k = w.heap.size + 4 → w.heap.size ≤ k := by rintro k rfl; omega
      have nx4 := n4
      have nx5 := n5
      have nx6 := n6
      have nx7 := n7
      go_wp2_with fail
      refine wp_region_kept_one 40 (w.heap.size + 4) 8 _ (by kernel_rfl) (by kernel_rfl) (by decide) z8 rfl ?_
      simp only [Act.put, List.setIfInBounds_toArray, List.set_cons_zero, List.set_cons_succ]
      refine kept_val _ (fun _ => rfl) (fun ρ w hw => by have q0 := (x10.keepX hw nx10).c0; have q1 := (x10.keepX hw nx10).c1; go_simp; first | done | with_reducible rfl) ?_
      simp only [Act.put, List.setIfInBounds_toArray, List.set_cons_zero, List.set_cons_succ, Nat.reduceAdd]
      refine kept_call _ _ _ (fun _ => rfl) (fun ρ w hw => by go_simp; first | done | with_reducible rfl) (fun w hw => CO.out.of hG (hw.lower hb hX)) ?_
      simp only [Act.put, List.setIfInBounds_toArray, List.set_cons_zero, List.set_cons_succ, Nat.reduceAdd]
      refine kept_call _ _ _ (fun _ => rfl) (fun ρ w hw => by go_simp; first | done | with_reducible rfl) (fun w hw => CS.out.of hG (hw.lower hb hX)) ?_
      simp only [Act.put, List.setIfInBounds_toArray, List.set_cons_zero, List.set_cons_succ, Nat.reduceAdd]
      refine kept_val _ (fun _ => rfl) (fun ρ w hw => by have q0 := (x7.keepX hw nx7).c0; have q1 := (x7.keepX hw nx7).c1; go_simp; first | done | with_reducible rfl) ?_
      simp only [Act.put, List.setIfInBounds_toArray, List.set_cons_zero, List.set_cons_succ, Nat.reduceAdd]
      refine kept_call _ _ _ (fun _ => rfl) (fun ρ w hw => by go_simp; first | done | with_reducible rfl) (fun w hw => CR.out.of hG (hw.lower hb hX)) ?_
      iterate 2
        simp only [Act.put, List.setIfInBounds_toArray, List.set_cons_zero, List.set_cons_succ, Nat.reduceAdd]
        refine kept_val _ (fun _ => rfl) (fun ρ w hw => by go_simp; first | done | with_reducible rfl) ?_
      simp only [Act.put, List.setIfInBounds_toArray, List.set_cons_zero, List.set_cons_succ, Nat.reduceAdd]
      refine kept_putK 40 _ _ _ _ _ rfl rfl (fun _ => rfl) (fun ρ w hw q0 q1 q2 q3 => by go_simp; first | done | with_reducible rfl) ?_
      simp only [Act.put, Nat.reduceAdd]
      refine kept_val _ (fun _ => rfl) (fun ρ w hw => by go_simp; first | done | with_reducible rfl) ?_
      simp only [Act.put, List.setIfInBounds_toArray, List.set_cons_zero, List.set_cons_succ, Nat.reduceAdd]
      refine kept_endX (fun ρ w90 hF => ?_)
      have hb9 := hF.below.lower hb hX
      have t8 := FBox.ofB (hF.box 40 _ _ rfl).2
      generalize ρ 40 = c8 at *
      clear hF
      have d0 := t8.c0
      have d1 := t8.c1
      go_wp2
      refine bodyPost_ret (v := .tuple #[(Value.agg #[Value.string ⟨List.toArray (fN QN)⟩, Value.string ⟨List.toArray (fD QN)⟩]), .int .i64 0]) (by simp [results, Tryz.results30, go_sem, d0, d1]) rfl ?_
      exact ⟨retq HV.out, hb9⟩
end Go.Proofs.YtgnppdkeiihlfaaGreatDoor
namespace Go.Proofs.YtgnppdkeiihlfaaGreatDoor
open Go.RowKit Num
def StsAt (w : World) (A : Option Addr) (rs : List (List UInt8)) : Prop := ∀ (i : Nat) (r : List UInt8), rs[i]? = some r → ∃ b o, A = some ⟨b, o, none⟩ ∧ b < w.heap.size ∧ w.cell? ⟨b, o + i, none⟩ = some (.string ⟨r.toArray⟩)
theorem StsAt.below {w w' : World} {A : Option Addr} {rs : List (List UInt8)} (h : StsAt w A rs) (hb : Below w.heap.size w w') : StsAt w' A rs := fun i t ht => by
  obtain ⟨b, o, hA, hl, h0⟩ := h i t ht
  exact ⟨b, o, hA, Nat.lt_of_lt_of_le hl hb.size, (hb.cell (p := ⟨b, _, none⟩) hl).trans h0⟩
theorem stsAt_of {w : World} {b : Nat} {rs : List (List UInt8)} (hlt : b < w.heap.size) (h : ∀ i, i < rs.length → w.cell? ⟨b, 0 + i, none⟩ = some (.string ⟨(rs.getD i []).toArray⟩)) : StsAt w (some ⟨b, 0, none⟩) rs := fun i r hr => by
  obtain ⟨hi, e⟩ := List.getElem?_eq_some_iff.1 hr
  have h2 := h i hi
  rw [List.getD_eq_getElem?_getD, hr] at h2
  exact ⟨b, 0, rfl, hlt, h2⟩
def stV (r : List UInt8) : Value := .string ⟨r.toArray⟩
set_option maxHeartbeats 2000000 in
set_option maxRecDepth 100000 in
theorem idxSt (f : Nat) (hcall : ∀ (args : Array Value) w, (callFunc f args).run Tryz.prog w = .ok (.enter f args) w) (p : (List UInt8) → Bool) (A : Option Addr) (rs : List (List UInt8)) (n c : Nat) (w : World) (hn : rs.length = n) (hn2 : n ≤ 1000000000) (h : StsAt w A rs)
    (hp : ∀ x ∈ rs, ∀ w', Below w.heap.size w w' → Calls Tryz.prog f #[stV x] w' fun e w'' => e = .returned (.bool (p x)) ∧ Below w'.heap.size w' w'') :
    Calls Tryz.prog 127 #[.slice A n c, .func (Fn.func f) #[] #[]] w fun e w' => ∃ z : Int, e = .returned (.int .i64 z) ∧ decide (0 ≤ z) = rs.any p ∧ Below w.heap.size w w' := by
  have HI := Lib.hid h
  have HP := Lib.hid hp
  have hn1 : rs.length ≤ n := by omega
  have hn3 : n ≤ rs.length := by omega
  clear h hp hn
  go_enter Tryz.func127, Tryz.ntmps127
  go_wp2_with fail
  go_loopw [8] (fun iv wr => ∃ k : Nat, k ≤ n ∧ iv = .int .i64 (k : Int) ∧ Hid (rs.any p = (rs.drop k).any p) ∧ Below w.heap.size w wr) (fun iv _ => n - (intOf iv).toNat)
  case atStart => exact ⟨0, Nat.zero_le _, rfl, rfl, Below.refl _ _⟩
  case round =>
    obtain ⟨k, hk, rfl, HK, hb⟩ := hrel
    by_cases hlt : k < n
    · obtain ⟨x, hx⟩ : ∃ x, rs[k]? = some x := ⟨_, List.getElem?_eq_getElem (by omega)⟩
      obtain ⟨b, o, rfl, hbs, p0⟩ := (HI.out.below hb) k x hx
      have hd : rs.drop k = x :: rs.drop (k + 1) := by
        obtain ⟨hk2, rfl⟩ := List.getElem?_eq_some_iff.1 hx
        exact List.drop_eq_getElem_cons hk2
      have HD := Lib.hid hd
      have CP := HP.out x (List.mem_of_getElem? hx) wr hb
      unfold stV at CP
      have CP := Lib.hid CP
      clear hx hd
      go_wp2_with fail
      ((with_reducible refine CP.out.mono ?_); rintro e w2 ⟨rfl, hb2⟩)
      replace hb := bto hb hb2
      clear hb2 CP p0
      by_cases hq : p x = true
      · have HV : Hid (decide (0 ≤ (k : Int)) = rs.any p) := by show _ = _; rw [HK.out, HD.out, List.any_cons, hq, decide_eq_true (by omega)]; rfl
        rw [hq]
        clear hq HK HD
        go_wp2
        go_ret
        exact ⟨_, rfl, HV.out, hb⟩
      · have HV : Hid (rs.any p = (rs.drop (k + 1)).any p) := by show _ = _; rw [HK.out, HD.out, List.any_cons, not_true_b hq, Bool.false_or]
        rw [not_true_b hq]
        clear hq HK HD
        go_wp2
        go_roundw
        case rel => exact ⟨k + 1, by omega, by go_num, HV, hb⟩
        case measure => simp [intOf]; omega
    · have HV : Hid (decide (0 ≤ (-1 : Int)) = rs.any p) := by show _ = _; rw [HK.out, List.drop_of_length_le (by omega)]; rfl
      go_wp2
      go_ret
      exact ⟨_, rfl, HV.out, hb⟩
set_option maxHeartbeats 2000000 in
set_option maxRecDepth 100000 in
theorem conSt (f : Nat) (hcall : ∀ (args : Array Value) w, (callFunc f args).run Tryz.prog w = .ok (.enter f args) w) (p : (List UInt8) → Bool) (A : Option Addr) (rs : List (List UInt8)) (n c : Nat) (w : World) (hn : rs.length = n) (hn2 : n ≤ 1000000000) (h : StsAt w A rs)
    (hp : ∀ x ∈ rs, ∀ w', Below w.heap.size w w' → Calls Tryz.prog f #[stV x] w' fun e w'' => e = .returned (.bool (p x)) ∧ Below w'.heap.size w' w'') :
    Calls Tryz.prog 60 #[.slice A n c, .func (Fn.func f) #[] #[]] w fun e w' => e = .returned (.bool (rs.any p)) ∧ Below w.heap.size w w' := by
  have C1 := Lib.hid (idxSt f hcall p A rs n c w hn hn2 h hp)
  clear hn h hp
  go_enter Tryz.func60, Tryz.ntmps60
  go_wp2_with fail
  refine C1.out.mono ?_
  rintro e w2 ⟨z, rfl, hz, hb⟩
  have HZ := Lib.hid hz
  clear hz
  by_cases g : 0 ≤ z
  · have e1 : decide (0 ≤ z) = true := decide_eq_true g
    go_wp2
    go_ret
    exact ⟨by rw [← HZ.out, e1]; rfl, hb⟩
  · have e1 : decide (0 ≤ z) = false := decide_eq_false g
    go_wp2
    go_ret
    exact ⟨by rw [← HZ.out, e1]; rfl, hb⟩
def longS (r : List UInt8) : Bool := decide (13 < r.length)
theorem greatClo (r : List UInt8) (w : World) : Calls Tryz.prog 61 #[stV r] w fun e w' => e = .returned (.bool (longS r)) ∧ Below w.heap.size w w' := by
  unfold stV longS
  have HV : Hid (decide ((13 : Int) < (r.length : Int)) = decide (13 < r.length)) := by show _ = _; rw [decide_eq_decide]; omega
  go_enter Tryz.func61, Tryz.ntmps61
  go_wp2
  go_ret
  exact ⟨retb HV.out, Below.refl _ _⟩
theorem enter_g1 (args : Array Value) (w : World) : (callFunc 61 args).run Tryz.prog w = .ok (.enter 61 args) w := by kernel_rfl
structure Fine12 (x : Ins) (qs : List (List UInt8)) : Prop where
  small : x.Small
  tiny : x.Tiny
  nums : ∀ q ∈ qs, q.length ≤ 13
set_option maxHeartbeats 4000000 in
set_option maxRecDepth 100000 in
theorem lGreat (x : Ins) (A : Option Addr) (qs : List (List UInt8)) (n c : Nat) (w : World) (hn : qs.length = n) (hn2 : n ≤ 1000000000) (h : StsAt w A qs) :
    Calls Tryz.prog 14 #[(Value.agg #[Value.string ⟨List.toArray x.id⟩, Value.int .i64 x.kind, Value.string ⟨List.toArray x.cur⟩, Value.int .i64 x.places, Value.int .i64 x.issued, Value.int .i64 x.matures, Value.string ⟨List.toArray x.fn⟩, Value.string ⟨List.toArray x.fd⟩, Value.string ⟨List.toArray x.cn⟩, Value.string ⟨List.toArray x.cd⟩, Value.int .i64 x.months, Value.int .i64 x.count, Value.string ⟨List.toArray x.other⟩, Value.string ⟨List.toArray x.sn⟩, Value.string ⟨List.toArray x.sd⟩]), .slice A n c] w fun e w' => ∃ b, e = .returned (.bool b) ∧ (b = false → Fine12 x qs) ∧ Below w.heap.size w w' := by
  have CS := Lib.hid (fun (w' : World) (hb : Below w.heap.size w w') => conSt _ enter_g1 longS A qs n c w' hn hn2 (h.below hb) (fun q _ w2 _ => greatClo q w2))
  have CL := Lib.hid (fun (w' : World) (b : Nat) (h : FrAt w' (some ⟨b, 0, none⟩) [(x.fn, x.fd), (x.cn, x.cd), (x.sn, x.sd)]) => lLong (some ⟨b, 0, none⟩) [(x.fn, x.fd), (x.cn, x.cd), (x.sn, x.sd)] 3 3 w' rfl (by decide) h)
  clear h hn hn2
  go_enter Tryz.func14, Tryz.ntmps14
  have x2' := (IBox.new w x 27)
  have qx2_0 := x2'.c0
  have qx2_1 := x2'.c1
  have qx2_2 := x2'.c2
  have qx2_3 := x2'.c3
  have qx2_4 := x2'.c4
  have qx2_5 := x2'.c5
  have qx2_6 := x2'.c6
  have qx2_7 := x2'.c7
  have qx2_8 := x2'.c8
  have qx2_9 := x2'.c9
  have qx2_10 := x2'.c10
  have qx2_11 := x2'.c11
  have qx2_12 := x2'.c12
  have qx2_13 := x2'.c13
  have qx2_14 := x2'.c14
  go_wp2_with fail
  refine (CL.out _ _ (frAt_of (by first | (simp; done) | (simp; omega)) (fun i hi => by
    have hi : i = 0 ∨ i = 1 ∨ i = 2 := by simp at hi; omega
    rcases hi with rfl | rfl | rfl <;> simp [go_sem]))).mono ?_
  rintro e w1 ⟨rfl, hb1'⟩
  have hb1 := bto (below_alloc _ _) hb1'
  have x2 := x2'.below hb1
  have hb := bto (below_alloc _ _) hb1
  clear qx2_0 qx2_1 qx2_2 qx2_3 qx2_4 qx2_5 qx2_6 qx2_7 qx2_8 qx2_9 qx2_10 qx2_11 qx2_12 qx2_13 qx2_14
  clear hb1 hb1' x2' CL
  have qx2_0 := x2.c0
  have qx2_1 := x2.c1
  have qx2_2 := x2.c2
  have qx2_3 := x2.c3
  have qx2_4 := x2.c4
  have qx2_5 := x2.c5
  have qx2_6 := x2.c6
  have qx2_7 := x2.c7
  have qx2_8 := x2.c8
  have qx2_9 := x2.c9
  have qx2_10 := x2.c10
  have qx2_11 := x2.c11
  have qx2_12 := x2.c12
  have qx2_13 := x2.c13
  have qx2_14 := x2.c14
  by_cases gL : [(x.fn, x.fd), (x.cn, x.cd), (x.sn, x.sd)].any longF = true
  · rw [gL]
    clear gL
    go_wp2
    go_ret
    exact ⟨true, rfl, fun h => (by cases h), hb⟩
  have HL := Lib.hid (not_true_b gL)
  rw [not_true_b gL]
  clear gL
  by_cases g0 : 40 < x.id.length
  · have e0 : decide (40 < x.id.length) = true := decide_eq_true g0
    have f0 : decide ((40 : Int) < (x.id.length : Int)) = true := decide_eq_true (by omega)
    clear g0
    go_wp2
    go_ret
    exact ⟨true, rfl, fun h => (by cases h), hb⟩
  have e0 : decide (40 < x.id.length) = false := decide_eq_false g0
  have f0 : decide ((40 : Int) < (x.id.length : Int)) = false := decide_eq_false (by omega)
  have H0 := Lib.hid (Nat.le_of_not_lt g0)
  clear g0
  by_cases g1 : 10 < x.cur.length
  · have e1 : decide (10 < x.cur.length) = true := decide_eq_true g1
    have f1 : decide ((10 : Int) < (x.cur.length : Int)) = true := decide_eq_true (by omega)
    clear g1
    go_wp2
    go_ret
    exact ⟨true, rfl, fun h => (by cases h), hb⟩
  have e1 : decide (10 < x.cur.length) = false := decide_eq_false g1
  have f1 : decide ((10 : Int) < (x.cur.length : Int)) = false := decide_eq_false (by omega)
  have H1 := Lib.hid (Nat.le_of_not_lt g1)
  clear g1
  by_cases g2 : 10 < x.other.length
  · have e2 : decide (10 < x.other.length) = true := decide_eq_true g2
    have f2 : decide ((10 : Int) < (x.other.length : Int)) = true := decide_eq_true (by omega)
    clear g2
    go_wp2
    go_ret
    exact ⟨true, rfl, fun h => (by cases h), hb⟩
  have e2 : decide (10 < x.other.length) = false := decide_eq_false g2
  have f2 : decide ((10 : Int) < (x.other.length : Int)) = false := decide_eq_false (by omega)
  have H2 := Lib.hid (Nat.le_of_not_lt g2)
  clear g2
  go_wp2_with fail
  refine (CS.out _ hb).mono ?_
  rintro e w2 ⟨rfl, hb2⟩
  replace hb := bto hb hb2
  obtain ⟨T, hT⟩ : ∃ T, T = qs.any longS := ⟨_, rfl⟩
  rw [← hT]
  have HT := Lib.hid hT
  clear qx2_0 qx2_1 qx2_2 qx2_3 qx2_4 qx2_5 qx2_6 qx2_7 qx2_8 qx2_9 qx2_10 qx2_11 qx2_12 qx2_13 qx2_14
  clear hT hb2 CS x2
  go_wp2
  go_ret
  refine ⟨T, rfl, fun hTf => ?_, hb⟩
  have h1 := HL.out
  simp only [List.any_cons, List.any_nil, Bool.or_false, Bool.or_eq_false_iff] at h1
  have a1 := longF_no h1.1
  have a2 := longF_no h1.2.1
  have a3 := longF_no h1.2.2
  have b0 := H0.out
  have b1 := H1.out
  have b2 := H2.out
  refine ⟨⟨by omega, by omega, by omega, Nat.le_trans a1.1 (by decide), Nat.le_trans a1.2 (by decide), Nat.le_trans a2.1 (by decide), Nat.le_trans a2.2 (by decide), Nat.le_trans a3.1 (by decide), Nat.le_trans a3.2 (by decide)⟩, ⟨Nat.le_trans a3.1 (by decide), Nat.le_trans a3.2 (by decide)⟩, fun q hq => ?_⟩
  have h2 := HT.out
  rw [hTf] at h2
  have h3 := List.any_eq_false.1 h2.symm q hq
  unfold longS at h3
  simp at h3
  omega
def exI : Ins := ⟨[102, 119, 100], 5, [69, 85, 82], 2, 100, 200, [], [], [], [], 0, 0, [85, 83, 68], [49, 49], [49, 48]⟩
set_option maxHeartbeats 1000000 in
set_option maxRecDepth 100000 in
theorem lExample : Ret 66 #[] (.agg #[.string ⟨#[102, 119, 100]⟩, .int .i64 5, .string ⟨#[69, 85, 82]⟩, .int .i64 2, .int .i64 100, .int .i64 200, .string ⟨#[]⟩, .string ⟨#[]⟩, .string ⟨#[]⟩, .string ⟨#[]⟩, .int .i64 0, .int .i64 0, .string ⟨#[85, 83, 68]⟩, .string ⟨#[49, 49]⟩, .string ⟨#[49, 48]⟩]) := fun w _ => by
  go_enter Tryz.func66, Tryz.ntmps66
  go_wp2
  refine bodyPost_ret (v := .agg #[.string ⟨#[102, 119, 100]⟩, .int .i64 5, .string ⟨#[69, 85, 82]⟩, .int .i64 2, .int .i64 100, .int .i64 200, .string ⟨#[]⟩, .string ⟨#[]⟩, .string ⟨#[]⟩, .string ⟨#[]⟩, .int .i64 0, .int .i64 0, .string ⟨#[85, 83, 68]⟩, .string ⟨#[49, 49]⟩, .string ⟨#[49, 48]⟩]) (by simp [results, Tryz.results66, go_sem]) rfl ?_
  exact ⟨rfl, below_alloc _ _⟩
theorem exI_small : exI.Small := by constructor <;> decide
theorem exI_tiny : exI.Tiny := by constructor <;> decide
theorem aw_v : presV exI [49, 48, 48, 48] ([50, 51], [50, 48]) ([], []) ([], []) = ([53, 48], 0) := by decide +kernel
theorem aw_s : setV exI [49, 48, 48, 48] = ([⟨[69, 85, 82], [49, 48, 48, 48]⟩, ⟨[85, 83, 68], [45, 49, 49, 48, 48]⟩], 0) := by decide +kernel
theorem aw_f : fairV ([50], []) ([49], [49, 48]) ([49], [50, 48]) ([49], []) = (Rat.divInt 44 21, 0) := by decide +kernel
theorem aw_n : fN (Rat.divInt 44 21) = [52, 52] ∧ fD (Rat.divInt 44 21) = [50, 49] := by decide +kernel
def sameP (a b c d : List UInt8) : Bool := (a == c) && ((b == d) && true)
theorem sameP_self (a b : List UInt8) : sameP a b a b = true := by simp [sameP]
set_option maxRecDepth 100000 in
theorem eqP1 (a b c d : List UInt8) (w : World) : (Op.equalIn 10000 25 (.agg #[.string ⟨a.toArray⟩, .string ⟨b.toArray⟩]) (.agg #[.string ⟨c.toArray⟩, .string ⟨d.toArray⟩])).run Tryz.prog w = .ok (sameP a b c d) w := by
  have hS : Tryz.prog.underlying 25 = some (.struct (Tryz.prog.fieldsOf 25)) := by kernel_rfl
  have hp : Tryz.prog.stoodInHeld 25 = false := by kernel_rfl
  rw [show (10000 : Nat) = 9999 + 1 from rfl, run_equalIn_agg w 9999 25 _ _ hS hp]
  simp only [Program.fieldsOf, Tryz.underlying25]
  unfold sameP
  exact (eqf_step (by decide) (a := .string ⟨a.toArray⟩) (b := .string ⟨c.toArray⟩) (by go_simp) (by go_simp) (by rw [run_equalIn_string w 9998 _ _ _ Tryz.underlying23]; simp) (eqf_step (by decide) (a := .string ⟨b.toArray⟩) (b := .string ⟨d.toArray⟩) (by go_simp) (by go_simp) (by rw [run_equalIn_string w 9998 _ _ _ Tryz.underlying23]; simp) eqf_nil))
theorem guardP : Tryz.prog.eqGuardType Tryz.prog.depth 25 = false := by kernel_rfl
theorem max3z {P : Program} (ts : Array TypeId) (t : TypeId) (w : World) : (Builtin.max_ ts t #[.int .i64 0, .int .i64 0, .int .i64 0]).run P w = .ok (.int .i64 0) w := by
  simp [Builtin.max_, Builtin.max2]
set_option maxHeartbeats 8000000 in
set_option maxRecDepth 100000 in
theorem wAwake12 : Ret 18 #[] (.bool true) := fun w hG => by
  have hb := Below.refl w.heap.size w
  have C0 := Lib.hid lExample
  have c1 := fValue exI exI_small [49, 48, 48, 48] (by decide) ([50, 51], [50, 48]) ⟨by decide, by decide⟩
  rw [aw_v] at c1
  have C1 := Lib.hid c1
  have c2 := fun w' hG' => fSettle exI exI_small exI_tiny [49, 48, 48, 48] (by decide) w' hG'
  rw [aw_s] at c2
  have C2 := Lib.hid c2
  have c3 := fFair ([50], []) ([49], [49, 48]) ([49], [50, 48]) ([49], []) ⟨by decide, by decide⟩ ⟨by decide, by decide⟩ ⟨by decide, by decide⟩ ⟨by decide, by decide⟩
  rw [aw_f] at c3
  dsimp only at c3
  rw [aw_n.1, aw_n.2] at c3
  have C3 := Lib.hid c3
  clear c1 c2 c3
  go_enter Tryz.func18, Tryz.ntmps18
  go_wp2_with fail
  ((with_reducible refine (C0.out.of hG hb).mono ?_); rintro e w1 ⟨rfl, hb1⟩)
  replace hb := bto hb hb1
  clear hb1
  go_wp2_with fail
  refine (C1.out.of hG hb).mono ?_
  rintro e w2 ⟨rfl, hb2⟩
  replace hb := bto hb hb2
  clear hb2 C1
  go_wp2_with fail
  ((with_reducible refine (C0.out.of hG hb).mono ?_); rintro e w3 ⟨rfl, hb3⟩)
  replace hb := bto hb hb3
  clear hb3
  go_wp2_with fail
  refine (C2.out _ (hG.below hb)).mono ?_
  rintro e w4 ⟨B, m, cp, rfl, hm, hcp, hM, hb4⟩
  replace hb := bto hb hb4
  clear hb4 C2
  go_wp2_with fail
  refine (C3.out.of hG hb).mono ?_
  rintro e w5 ⟨rfl, hb5⟩
  have hbA := below_alloc w5 (.cells #[.string ⟨([52, 52] : List UInt8).toArray⟩, .string ⟨([50, 49] : List UInt8).toArray⟩] 25)
  have x5 := FBox.new w5 (.string ⟨([52, 52] : List UInt8).toArray⟩) (.string ⟨([50, 49] : List UInt8).toArray⟩) 25
  replace hb5 := bto hb5 hbA
  replace hM := hM.below hb5
  replace hb := bto hb hb5
  clear hb5 hbA C3 C0
  have hmax : ∀ (ts : Array TypeId) (t : TypeId) (w : World), (Builtin.max_ ts t #[.int .i64 0, .int .i64 0, .int .i64 0]).run Tryz.prog w = .ok (.int .i64 0) w := fun ts t w => max3z ts t w
  go_wp2_with fail
  obtain ⟨w6, hw6⟩ : ∃ w6, w6 = w5.alloc (.cells #[.string ⟨([52, 52] : List UInt8).toArray⟩, .string ⟨([50, 49] : List UInt8).toArray⟩] 25) := ⟨_, rfl⟩
  have hs6 : w5.heap.size + 1 = w6.heap.size := by rw [hw6]; exact (World.size_alloc _ _).symm
  rw [← hw6] at x5 hM hb
  rw [← hw6]
  (try rw [hs6])
  have hX := two_at (a := [69, 85, 82]) (b := [49, 48, 48, 48]) (c := [85, 83, 68]) (d := [45, 49, 49, 48, 48]) (w := w6) rfl
  have hbB := below_alloc w6 (.cells #[.string ⟨([69, 85, 82] : List UInt8).toArray⟩, .string ⟨([49, 48, 48, 48] : List UInt8).toArray⟩, .string ⟨([85, 83, 68] : List UInt8).toArray⟩, .string ⟨([45, 49, 49, 48, 48] : List UInt8).toArray⟩] 48)
  have CE := eqMs B (some ⟨w6.heap.size, 0, none⟩) [⟨[69, 85, 82], [49, 48, 48, 48]⟩, ⟨[85, 83, 68], [45, 49, 49, 48, 48]⟩] [⟨[69, 85, 82], [49, 48, 48, 48]⟩, ⟨[85, 83, 68], [45, 49, 49, 48, 48]⟩] m 2 cp 2 _ hm rfl (by simp at hm; omega) (by decide) (hM.below hbB) hX
  rw [sameMs_self] at CE
  refine CE.mono ?_
  rintro e w7 ⟨rfl, hb7⟩
  have hb8 := bto hbB hb7
  replace x5 := x5.below hb8
  replace hb := bto hb hb8
  have q0 := x5.c0
  have q1 := x5.c1
  have hE := fun (w : World) => eqP1 [52, 52] [50, 49] [52, 52] [50, 49] w
  simp only [sameP_self] at hE
  have hEG := guardP
  clear CE hX hM hm hcp hbB hb7 hb8 hw6 hs6
  go_wp2
  go_ret
  exact ⟨rfl, hb⟩
end Go.Proofs.YtgnppdkeiihlfaaGreatDoor
namespace Go.Proofs.YtgnppdkeiihlfaaGreatDoor
open Go.RowKit Num
abbrev zz : Fp2 := ([], [])
theorem fv_zz : fv zz.1 zz.2 = 0 := by decide +kernel
theorem can_zz : canB zz = true := by decide +kernel
theorem can_fr (q : Rat) : canB (fN q, fD q) = true := by
  unfold canB
  rw [decide_eq_true_eq]
  simp only [fv_frac]
  exact ⟨trivial, trivial⟩
theorem up_r (r : Fp2) : upQ r zz = 1 := by unfold upQ; rw [fv_zz, Rat.mul_zero, Rat.add_zero]
theorem up_y (y : Fp2) : upQ zz y = 1 := by unfold upQ; rw [fv_zz, Rat.zero_mul, Rat.add_zero]
theorem all4 {p : Fp2 → Bool} {a b c d : Fp2} : [a, b, c, d].all p = true ↔ p a = true ∧ p b = true ∧ p c = true ∧ p d = true := by
  simp [List.all_cons, Bool.and_eq_true]
theorem all3 {p : Fp2 → Bool} {a b c : Fp2} : [a, b, c].all p = true ↔ p a = true ∧ p b = true ∧ p c = true := by
  simp [List.all_cons, Bool.and_eq_true]
structure FairOk (s d f y : Fp2) : Prop where
  cs : canB s = true
  cd : canB d = true
  cf : canB f = true
  cy : canB y = true
  s0 : 0 < fv s.1 s.2
  y0 : 0 ≤ fv y.1 y.2
  d0 : 0 < upQ d y
  f0 : 0 < upQ f y
theorem fairB_no {s d f y : Fp2} : fairB s d f y = false ↔ 0 < fv s.1 s.2 ∧ 0 ≤ fv y.1 y.2 ∧ 0 < upQ d y ∧ 0 < upQ f y := by
  unfold fairB
  simp only [Bool.or_eq_false_iff, decide_eq_false_iff_not, Rat.not_le, Rat.not_lt, and_assoc]
theorem impB_no {s r d y : Fp2} : impB s r d y = false ↔ 0 < fv s.1 s.2 ∧ 0 < fv r.1 r.2 ∧ 0 ≤ fv y.1 y.2 ∧ 0 < upQ d y := by
  unfold impB
  simp only [Bool.or_eq_false_iff, decide_eq_false_iff_not, Rat.not_le, Rat.not_lt, and_assoc]
theorem presB_no {r i y : Fp2} : presB r i y = false ↔ 0 ≤ fv r.1 r.2 ∧ 0 ≤ fv y.1 y.2 ∧ 0 < upQ i y := by
  unfold presB
  simp only [Bool.or_eq_false_iff, decide_eq_false_iff_not, Rat.not_le, Rat.not_lt, and_assoc]
theorem fair_ok {s d f y : Fp2} (h : (fairV s d f y).2 = 0) : FairOk s d f y := by
  unfold fairV at h
  by_cases h1 : [s, d, f, y].all canB = true
  · rw [if_neg (fun g => g h1)] at h
    by_cases h2 : fairB s d f y = true
    · rw [if_pos h2] at h; exact absurd h (by decide)
    · obtain ⟨a, b, c, e⟩ := all4.1 h1
      obtain ⟨a', b', c', e'⟩ := fairB_no.1 (not_true_b h2)
      exact ⟨a, b, c, e, a', b', c', e'⟩
  · rw [if_pos h1] at h; exact absurd h (by decide)
theorem fair_bad {s d f y : Fp2} (h : ¬ (fairV s d f y).2 = 0) : (fairV s d f y).1 = 0 := by
  unfold fairV at h ⊢
  split
  · rfl
  · split
    · rfl
    · rename_i h1 h2; rw [if_neg h1, if_neg h2] at h; exact absurd rfl h
theorem fair_is {s d f y : Fp2} (h : FairOk s d f y) : fairV s d f y = (fv s.1 s.2 * upQ d y / upQ f y, 0) := by
  unfold fairV
  rw [if_neg (fun g => g (all4.2 ⟨h.cs, h.cd, h.cf, h.cy⟩)), if_neg (by rw [fairB_no.2 ⟨h.s0, h.y0, h.d0, h.f0⟩]; decide)]
theorem pos_ne {q : Rat} (h : 0 < q) : q ≠ 0 := fun e => by rw [e] at h; exact absurd h Rat.lt_irrefl
theorem inv_none {s d f y : Fp2} (h : FairOk s d f y) : fairV s d f zz = (fv s.1 s.2, 0) := by
  have h2 : FairOk s d f zz := ⟨h.cs, h.cd, h.cf, can_zz, h.s0, by rw [fv_zz]; exact Rat.le_refl, by rw [up_r]; decide, by rw [up_r]; decide⟩
  rw [fair_is h2, up_r, up_r, Rat.mul_one, Rat.div_def, Rat.inv_eq_of_mul_eq_one (Rat.mul_one 1), Rat.mul_one]
theorem inv_same {s d f y : Fp2} (h : FairOk s d f y) : fairV s d d y = (fv s.1 s.2, 0) := by
  rw [fair_is ⟨h.cs, h.cd, h.cd, h.cy, h.s0, h.y0, h.d0, h.d0⟩, fw_same (pos_ne h.d0)]
theorem div_pos' {a b : Rat} (ha : 0 < a) (hb : 0 < b) : 0 < a / b := by rw [Rat.div_def]; exact Rat.mul_pos ha (Rat.inv_pos.2 hb)
theorem inv_back {s d f y : Fp2} (h : FairOk s d f y) : impV s (fN (fv s.1 s.2 * upQ d y / upQ f y), fD (fv s.1 s.2 * upQ d y / upQ f y)) d y = if fv y.1 y.2 = 0 then (0, 10) else (fv f.1 f.2, 0) := by
  have hr := div_pos' (Rat.mul_pos h.s0 h.d0) h.f0
  unfold impV
  rw [if_neg (fun g => g (all4.2 ⟨h.cs, can_fr _, h.cd, h.cy⟩)), if_neg (by rw [impB_no.2 ⟨h.s0, by simp only [fv_frac]; exact hr, h.y0, h.d0⟩]; decide)]
  by_cases g : fv y.1 y.2 = 0
  · rw [if_pos g, if_pos g]
  · rw [if_neg g, if_neg g]
    simp only [fv_frac]
    rw [fw_implied (pos_ne h.s0) (pos_ne h.d0) (pos_ne h.f0) g rfl]
theorem zero_can' {y : Fp2} (h : canB y = true) : (fv y.1 y.2 = 0) ↔ (y.1 = [] ∧ y.2 = []) := by
  obtain ⟨h1, h2⟩ := canB_eq h
  constructor
  · intro e
    rw [e, fn0.1] at h1
    rw [e, fn0.2] at h2
    exact ⟨h1, h2⟩
  · rintro ⟨e1, e2⟩
    rw [e1, e2]; exact fv_zz
theorem div_one' (q : Rat) : q / 1 = q := by rw [Rat.div_def, Rat.inv_eq_of_mul_eq_one (Rat.mul_one 1), Rat.mul_one]
theorem pres_zz (x : Ins) (q : List UInt8) (a : Fp2) : presV x q a zz zz = if ¬ (okB x q && canB a) = true then ([], 1) else if fv a.1 a.2 < 0 then ([], 2) else (canon (rnd (qZ q * (fv a.1 a.2 - stk x)) 1), 0) := by
  unfold presV
  have e : [a, zz, zz].all canB = canB a := by simp [List.all_cons, can_zz]
  rw [e]
  have e2 : presB a zz zz = decide (fv a.1 a.2 < 0) := by
    unfold presB
    rw [up_r, fv_zz, decide_eq_false (p := (0 : Rat) < 0) (by decide), decide_eq_false (p := (1 : Rat) ≤ 0) (by decide)]
    simp
  rw [e2, up_r, div_one']
  by_cases g : fv a.1 a.2 < 0
  · rw [decide_eq_true g, if_pos rfl, if_pos g]
  · rw [decide_eq_false g, if_neg Bool.false_ne_true, if_neg g]
structure PresOk (x : Ins) (q : List UInt8) (r i y : Fp2) : Prop where
  ok : okB x q = true
  cr : canB r = true
  ci : canB i = true
  cy : canB y = true
  r0 : 0 ≤ fv r.1 r.2
  y0 : 0 ≤ fv y.1 y.2
  u0 : 0 < upQ i y
theorem pres_ok {x : Ins} {q : List UInt8} {r i y : Fp2} (h : (presV x q r i y).2 = 0) : PresOk x q r i y := by
  unfold presV at h
  by_cases h1 : (okB x q && [r, i, y].all canB) = true
  · rw [if_neg (fun g => g h1)] at h
    by_cases h2 : presB r i y = true
    · rw [if_pos h2] at h; exact absurd h (by decide)
    · rw [Bool.and_eq_true] at h1
      obtain ⟨a, b, c⟩ := all3.1 h1.2
      obtain ⟨a', b', c'⟩ := presB_no.1 (not_true_b h2)
      exact ⟨h1.1, a, b, c, a', b', c'⟩
  · rw [if_pos h1] at h; exact absurd h (by decide)
theorem pres_is {x : Ins} {q : List UInt8} {r i y : Fp2} (h : PresOk x q r i y) : presV x q r i y = (canon (rnd (qZ q * (fv r.1 r.2 - stk x) / upQ i y) 1), 0) := by
  unfold presV
  rw [if_neg (fun g => g (by rw [h.ok, all3.2 ⟨h.cr, h.ci, h.cy⟩]; rfl)), if_neg (by rw [presB_no.2 ⟨h.r0, h.y0, h.u0⟩]; decide)]
theorem strike_none {x : Ins} {q : List UInt8} (h : okB x q = true) : presV x q (x.sn, x.sd) zz zz = ([], 0) := by
  have hf := fwd_of (ok_iff.1 h).1
  have hc : canB (x.sn, x.sd) = true := decide_eq_true hf.can
  rw [pres_zz, if_neg (fun g => g (by rw [h, hc]; rfl)), if_neg (Rat.not_lt.2 (Rat.le_of_lt hf.pos))]
  have e : qZ q * (fv (x.sn, x.sd).1 (x.sn, x.sd).2 - stk x) = ((0 : Int) : Rat) := by
    unfold stk; rw [Rat.sub_self, Rat.mul_zero]; rfl
  rw [e, rnd_int]; rfl
theorem value_is {x : Ins} {q : List UInt8} {a : Fp2} (h : (presV x q a zz zz).2 = 0) : presV x q a zz zz = (canon (rnd (qZ q * (fv a.1 a.2 - stk x)) 1), 0) := by
  have h1 := pres_is (pres_ok h)
  rw [up_r, div_one'] at h1
  exact h1
theorem strike_mono (q : List UInt8) (a b s : Rat) : 0 ≤ cmpZ (val q) 0 * cmpQ a b * cmpZ (val (canon (rnd (qZ q * (a - s)) 1))) (val (canon (rnd (qZ q * (b - s)) 1))) := by
  rw [val_canon, val_canon]; exact fw_mono (val q) a b s
theorem neg_ok {x : Ins} {q : List UInt8} (h : q = canon (val q)) : okB x (canon (-val q)) = okB x q := by
  unfold okB
  rw [decide_eq_true h, decide_eq_true (show canon (-val q) = canon (val (canon (-val q))) by rw [val_canon])]
theorem qz_neg (q : List UInt8) : qZ (canon (-val q)) = -qZ q := by unfold qZ; rw [val_canon, Rat.intCast_neg]
theorem pres_neg {x : Ins} {q : List UInt8} (h : q = canon (val q)) (r i y : Fp2) : presV x (canon (-val q)) r i y = (canon (-val (presV x q r i y).1), (presV x q r i y).2) := by
  unfold presV
  rw [neg_ok h, qz_neg]
  split
  · rfl
  · split
    · rfl
    · have e : -qZ q * (fv r.1 r.2 - stk x) / upQ i y = -(qZ q * (fv r.1 r.2 - stk x) / upQ i y) := by rw [Rat.div_def, Rat.div_def, Rat.neg_mul, Rat.neg_mul]
      rw [e, rnd_neg _ 1 (by decide) (by decide)]
      simp only [val_canon]
theorem paid_neg (x : Ins) (q : List UInt8) : paidZ x (canon (-val q)) = -paidZ x q := by
  unfold paidZ
  rw [qz_neg, Rat.neg_mul, rnd_neg _ 1 (by decide) (by decide)]
theorem set_bag (x : Ins) (q : List UInt8) : Bag (setL x q) := put_bag (put_bag bag_nil _) _
theorem set_at (x : Ins) (q : List UInt8) (c : List UInt8) : zAt (setL x q) c = (if x.cur = c then val q else 0) + (if x.other = c then paidZ x q else 0) := by
  unfold setL
  rw [put_val (put_bag bag_nil _), put_val bag_nil, val_canon]
  show 0 + _ + _ = _
  rw [Int.zero_add]
theorem set_neg (x : Ins) (q : List UInt8) : (setL x (canon (-val q))).map negM = setL x q := by
  refine bag_eq (bag_neg (set_bag x _)) (set_bag x q) (fun c => ?_)
  rw [neg_val, set_at, set_at, paid_neg, val_canon]
  by_cases h1 : x.cur = c <;> by_cases h2 : x.other = c <;> simp [h1, h2] <;> omega
theorem setV_neg {x : Ins} {q : List UInt8} (h : q = canon (val q)) : (setV x (canon (-val q))).2 = (setV x q).2 := by
  unfold setV
  rw [neg_ok h]
  split <;> rfl
theorem setV_ok {x : Ins} {q : List UInt8} (h : (setV x q).2 = 0) : okB x q = true ∧ setV x q = (setL x q, 0) := by
  unfold setV at h ⊢
  by_cases g : okB x q = true
  · rw [if_neg (fun e => e g)]; exact ⟨g, rfl⟩
  · rw [if_pos g] at h; exact absurd h (by decide)
theorem setV_bad {x : Ins} {q : List UInt8} (h : ¬ (setV x q).2 = 0) : (setV x q).1 = [] := by
  unfold setV at h ⊢
  by_cases g : okB x q = true
  · rw [if_neg (fun e => e g)] at h; exact absurd rfl h
  · rw [if_pos g]
theorem set_got {x : Ins} {q : List UInt8} (h : okB x q = true) : amtL (setL x q) x.cur = q ∧ amtL (setL x q) x.other = canon (paidZ x q) := by
  obtain ⟨h0, hq⟩ := ok_iff.1 h
  have hf := fwd_of h0
  have hc : ∀ y ∈ setL x q, y.amt = canon (val y.amt) := fun y hy => ((set_bag x q).can y hy).1
  refine ⟨?_, ?_⟩
  · rw [amt_canon hc, set_at, if_pos rfl, if_neg hf.ne, Int.add_zero]; exact hq.symm
  · rw [amt_canon hc, set_at, if_neg (fun e => hf.ne e.symm), if_pos rfl, Int.zero_add]
theorem even_bad {x : Ins} {q v : List UInt8} (h : ¬ (evenV x q v).2 = 0) : (evenV x q v).1 = 0 := by
  unfold evenV at h ⊢
  split
  · rfl
  · split
    · rfl
    · rename_i h1 h2; rw [if_neg h1, if_neg h2] at h; exact absurd rfl h
theorem even_ok {x : Ins} {q v : List UInt8} (h : (evenV x q v).2 = 0) : okB x q = true ∧ v = canon (val v) ∧ val q ≠ 0 ∧ evenV x q v = (stk x + Rat.divInt (val v) (val q), 0) := by
  unfold evenV at h ⊢
  by_cases h1 : (okB x q && decide (v = canon (val v))) = true
  · rw [if_neg (fun g => g h1)] at h ⊢
    by_cases h2 : val q = 0
    · rw [if_pos h2] at h; exact absurd h (by decide)
    · rw [if_neg h2]
      rw [Bool.and_eq_true, decide_eq_true_eq] at h1
      exact ⟨h1.1, h1.2, h2, rfl⟩
  · rw [if_pos h1] at h; exact absurd h (by decide)
theorem even_val {x : Ins} {q v : List UInt8} (h : okB x q = true) (hv : v = canon (val v)) (h0 : val q ≠ 0) : presV x q (fN (stk x + Rat.divInt (val v) (val q)), fD (stk x + Rat.divInt (val v) (val q))) zz zz = if stk x + Rat.divInt (val v) (val q) < 0 then ([], 2) else (v, 0) := by
  rw [pres_zz, if_neg (fun g => g (by rw [h, can_fr]; rfl))]
  simp only [fv_frac]
  split
  · rfl
  · have e : qZ q * (stk x + Rat.divInt (val v) (val q) - stk x) = ((val v : Int) : Rat) := by
      have h1 : qZ q ≠ 0 := fun e => h0 (by unfold qZ at e; exact_mod_cast e)
      have h2 : Rat.divInt (val v) (val q) = ((val v : Int) : Rat) / qZ q := by unfold qZ; exact Rat.divInt_eq_div _ _
      rw [h2]; exact fw_even h1
    rw [e, rnd_int, ← hv]
theorem disc_time {x : Ins} {q : List UInt8} {r i y : Fp2} (h : PresOk x q r i y) : presV x q r i zz = (canon (rnd (qZ q * (fv r.1 r.2 - stk x)) 1), 0) := by
  have h1 := pres_is (x := x) (q := q) (r := r) (i := i) (y := zz) ⟨h.ok, h.cr, h.ci, can_zz, h.r0, by rw [fv_zz]; exact Rat.le_refl, by rw [up_r]; decide⟩
  rw [up_r, div_one'] at h1
  exact h1
theorem disc_none {x : Ins} {q : List UInt8} {r i y : Fp2} (h : PresOk x q r i y) : presV x q r zz y = (canon (rnd (qZ q * (fv r.1 r.2 - stk x)) 1), 0) := by
  have h1 := pres_is (x := x) (q := q) (r := r) (i := zz) (y := y) ⟨h.ok, h.cr, can_zz, h.cy, h.r0, h.y0, by rw [up_y]; decide⟩
  rw [up_y, div_one'] at h1
  exact h1
theorem up_ge {i y : Fp2} (h1 : 0 ≤ fv i.1 i.2) (h2 : 0 ≤ fv y.1 y.2) : 1 ≤ upQ i y := by
  unfold upQ
  have := Rat.mul_nonneg h1 h2
  grind
end Go.Proofs.YtgnppdkeiihlfaaGreatDoor
namespace Go.Proofs.YtgnppdkeiihlfaaGreatDoor
open Go.ChangeShapes Go.WideShapes Go.ChangeAt Go.RowKit
section
variable {H : Type} {enc : TypeId × Value → H} {w : World} {base : Nat} {spare : Nat → Bool} {held : Bool}
theorem cz_str : Tryz.prog.cellsOf 9 = 1 := by kernel_rfl
theorem cz_int : Tryz.prog.cellsOf 3 = 1 := by kernel_rfl
theorem cz_day : Tryz.prog.cellsOf 22 = 1 := by kernel_rfl
theorem cz_ai : Tryz.prog.cellsOf 23 = 1 := by kernel_rfl
theorem cz_frac : Tryz.prog.cellsOf 25 = 2 := by kernel_rfl
theorem cz_ins : Tryz.prog.cellsOf 27 = 15 := by kernel_rfl
theorem field_at {n : Nat} {fs : Array Field} {cs : List Value} {xs : List (DataW H × List MemPlace)} (hf : ∀ (i : Nat) (f : Field), fs[i]? = some f → DataW.trod enc Tryz.prog w base spare held n f.type ((cs.drop f.offset).take (Tryz.prog.cellsOf f.type)) = xs[i]?)
    (i : Nat) (ty : TypeId) (off : Nat) (f : Field) (h1 : fs[i]? = some f) (h2 : f.type = ty) (h3 : f.offset = off) (k : Nat) (h4 : Tryz.prog.cellsOf ty = k) (h5 : i < xs.length) : DataW.trod enc Tryz.prog w base spare held n ty ((cs.drop off).take k) = some (xs[i]'h5) := by
  have h := hf i f h1
  rw [h2, h3, h4, List.getElem?_eq_getElem h5] at h
  exact h
set_option maxRecDepth 10000 in
theorem frac_of_trod {fuel : Nat} {c0 c1 : Value} {x : DataW H × List MemPlace} (h : DataW.trod enc Tryz.prog w base spare held fuel 25 [c0, c1] = some x) : ∃ l l' : List UInt8, c0 = .string ⟨l.toArray⟩ ∧ c1 = .string ⟨l'.toArray⟩ := by
  obtain ⟨xs, n, -, -, -, hxl, hf⟩ := DataW.trod_struct Tryz.underlying25 h
  have hxl : xs.length = 2 := hxl
  have h0 : DataW.trod enc Tryz.prog w base spare held n 23 [c0] = some (xs[0]'(by omega)) := field_at hf 0 23 0 _ rfl rfl rfl 1 cz_ai (by omega)
  have h1 : DataW.trod enc Tryz.prog w base spare held n 23 [c1] = some (xs[1]'(by omega)) := field_at hf 1 23 1 _ rfl rfl rfl 1 cz_ai (by omega)
  obtain ⟨s0, e0, -, -⟩ := DataW.trod_string Tryz.underlying23 h0
  obtain ⟨s1, e1, -, -⟩ := DataW.trod_string Tryz.underlying23 h1
  injection e0 with e0
  injection e1 with e1
  exact ⟨s0.data.toList, s1.data.toList, e0, e1⟩
set_option maxRecDepth 10000 in
theorem ins_of_trod {fuel : Nat} {cs : List Value} {x : DataW H × List MemPlace} (h : DataW.trod enc Tryz.prog w base spare held fuel 27 cs = some x) : ∃ y : Ins, cs = (#[Value.string ⟨List.toArray y.id⟩, Value.int .i64 y.kind, Value.string ⟨List.toArray y.cur⟩, Value.int .i64 y.places, Value.int .i64 y.issued, Value.int .i64 y.matures, Value.string ⟨List.toArray y.fn⟩, Value.string ⟨List.toArray y.fd⟩, Value.string ⟨List.toArray y.cn⟩, Value.string ⟨List.toArray y.cd⟩, Value.int .i64 y.months, Value.int .i64 y.count, Value.string ⟨List.toArray y.other⟩, Value.string ⟨List.toArray y.sn⟩, Value.string ⟨List.toArray y.sd⟩]).toList := by
  obtain ⟨xs, n, -, -, hlen, hxl, hf⟩ := DataW.trod_struct Tryz.underlying27 h
  rw [cz_ins] at hlen
  have hxl : xs.length = 12 := hxl
  match cs, hlen with
  | [c0, c1, c2, c3, c4, c5, c6, c7, c8, c9, c10, c11, c12, c13, c14], _ =>
    have h0 : DataW.trod enc Tryz.prog w base spare held n 9 [c0] = some (xs[0]'(by omega)) := field_at hf 0 9 0 _ rfl rfl rfl 1 cz_str (by omega)
    have h1 : DataW.trod enc Tryz.prog w base spare held n 3 [c1] = some (xs[1]'(by omega)) := field_at hf 1 3 1 _ rfl rfl rfl 1 cz_int (by omega)
    have h2 : DataW.trod enc Tryz.prog w base spare held n 9 [c2] = some (xs[2]'(by omega)) := field_at hf 2 9 2 _ rfl rfl rfl 1 cz_str (by omega)
    have h3 : DataW.trod enc Tryz.prog w base spare held n 3 [c3] = some (xs[3]'(by omega)) := field_at hf 3 3 3 _ rfl rfl rfl 1 cz_int (by omega)
    have h4 : DataW.trod enc Tryz.prog w base spare held n 22 [c4] = some (xs[4]'(by omega)) := field_at hf 4 22 4 _ rfl rfl rfl 1 cz_day (by omega)
    have h5 : DataW.trod enc Tryz.prog w base spare held n 22 [c5] = some (xs[5]'(by omega)) := field_at hf 5 22 5 _ rfl rfl rfl 1 cz_day (by omega)
    have h6 : DataW.trod enc Tryz.prog w base spare held n 25 [c6, c7] = some (xs[6]'(by omega)) := field_at hf 6 25 6 _ rfl rfl rfl 2 cz_frac (by omega)
    have h7 : DataW.trod enc Tryz.prog w base spare held n 25 [c8, c9] = some (xs[7]'(by omega)) := field_at hf 7 25 8 _ rfl rfl rfl 2 cz_frac (by omega)
    have h8 : DataW.trod enc Tryz.prog w base spare held n 3 [c10] = some (xs[8]'(by omega)) := field_at hf 8 3 10 _ rfl rfl rfl 1 cz_int (by omega)
    have h9 : DataW.trod enc Tryz.prog w base spare held n 3 [c11] = some (xs[9]'(by omega)) := field_at hf 9 3 11 _ rfl rfl rfl 1 cz_int (by omega)
    have h10 : DataW.trod enc Tryz.prog w base spare held n 9 [c12] = some (xs[10]'(by omega)) := field_at hf 10 9 12 _ rfl rfl rfl 1 cz_str (by omega)
    have h11 : DataW.trod enc Tryz.prog w base spare held n 25 [c13, c14] = some (xs[11]'(by omega)) := field_at hf 11 25 13 _ rfl rfl rfl 2 cz_frac (by omega)
    obtain ⟨s0, e0, -, -⟩ := DataW.trod_string Tryz.underlying9 h0
    obtain ⟨s1, e1, -, -⟩ := DataW.trod_int Tryz.underlying3 h1
    obtain ⟨s2, e2, -, -⟩ := DataW.trod_string Tryz.underlying9 h2
    obtain ⟨s3, e3, -, -⟩ := DataW.trod_int Tryz.underlying3 h3
    obtain ⟨s4, e4, -, -⟩ := DataW.trod_int Tryz.underlying22 h4
    obtain ⟨s5, e5, -, -⟩ := DataW.trod_int Tryz.underlying22 h5
    obtain ⟨s6, s7, e6, e7⟩ := frac_of_trod h6
    obtain ⟨s8, s9, e8, e9⟩ := frac_of_trod h7
    obtain ⟨s10, e10, -, -⟩ := DataW.trod_int Tryz.underlying3 h8
    obtain ⟨s11, e11, -, -⟩ := DataW.trod_int Tryz.underlying3 h9
    obtain ⟨s12, e12, -, -⟩ := DataW.trod_string Tryz.underlying9 h10
    obtain ⟨s13, s14, e13, e14⟩ := frac_of_trod h11
    injection e0 with e0
    injection e1 with e1
    injection e2 with e2
    injection e3 with e3
    injection e4 with e4
    injection e5 with e5
    injection e10 with e10
    injection e11 with e11
    injection e12 with e12
    subst e0 e1 e2 e3 e4 e5 e6 e7 e8 e9 e10 e11 e12 e13 e14
    exact ⟨⟨s0.data.toList, s1, s2.data.toList, s3, s4, s5, s6, s7, s8, s9, s10, s11, s12.data.toList, s13, s14⟩, rfl⟩
set_option maxRecDepth 10000 in
theorem open_ins {r : Reach} {b0 : Nat} {v : Value} {d : DataW H} {p : List MemPlace} (hv : Value.okWide Tryz.prog w r b0 27 v) (h : DataW.Trod enc Tryz.prog w base spare held 27 v d p) : ∃ x : Ins, v = (Value.agg #[Value.string ⟨List.toArray x.id⟩, Value.int .i64 x.kind, Value.string ⟨List.toArray x.cur⟩, Value.int .i64 x.places, Value.int .i64 x.issued, Value.int .i64 x.matures, Value.string ⟨List.toArray x.fn⟩, Value.string ⟨List.toArray x.fd⟩, Value.string ⟨List.toArray x.cn⟩, Value.string ⟨List.toArray x.cd⟩, Value.int .i64 x.months, Value.int .i64 x.count, Value.string ⟨List.toArray x.other⟩, Value.string ⟨List.toArray x.sn⟩, Value.string ⟨List.toArray x.sd⟩]) := by
  obtain ⟨cs, rfl, hsz⟩ := okWide_struct Tryz.underlying27 hv
  obtain ⟨fuel, hf⟩ := h
  obtain ⟨x, hx⟩ := ins_of_trod hf
  obtain ⟨l⟩ := cs
  exact ⟨x, by rw [show l = _ from hx]⟩
end
end Go.Proofs.YtgnppdkeiihlfaaGreatDoor
