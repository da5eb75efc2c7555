/- FractionField. -/
import Derived.Test.YtjhafnnfkaejgaaGreatDoorRet
namespace Go.Proofs.YtjhafnnfkaejgaaGreatDoor
open Go.RowKit Num

set_option maxHeartbeats 4000000 in
set_option maxRecDepth 100000 in
theorem field_law (l l' k k' j j' : List UInt8) (w : World) (hG : Glob w) :
    Calls Tryz.prog 8 #[(Value.agg #[Value.string ⟨List.toArray l⟩, Value.string ⟨List.toArray l'⟩]), (Value.agg #[Value.string ⟨List.toArray k⟩, Value.string ⟨List.toArray k'⟩]), (Value.agg #[Value.string ⟨List.toArray j⟩, Value.string ⟨List.toArray j'⟩])] w fun e w' => e = .returned (.bool true) ∧ Below w.heap.size w w' := by
  have cW := rAwake
  go_enter Tryz.func8, Tryz.ntmps8
  go_wp2_with fail
  ((with_reducible refine (great_any _ 3 3 (fun i => [l, l', k, k', j, j'].getD i []) _ (by decide) ?_).mono ?_))
  · intro i hi
    have hi : i = 0 ∨ i = 1 ∨ i = 2 ∨ i = 3 ∨ i = 4 ∨ i = 5 := by omega
    rcases hi with rfl | rfl | rfl | rfl | rfl | rfl <;> simp [go_sem]
  rintro e w1 ⟨hres, hb1⟩
  have x3 : FBox w1 (w.heap.size) (.string ⟨l.toArray⟩) (.string ⟨l'.toArray⟩) := FBox.below ⟨by simp [go_sem], by simp [go_sem], by simp [go_sem], by simp [go_sem], by first | (simp; done) | (simp; omega)⟩ hb1
  have x4 : FBox w1 (w.heap.size + 1) (.string ⟨k.toArray⟩) (.string ⟨k'.toArray⟩) := FBox.below ⟨by simp [go_sem], by simp [go_sem], by simp [go_sem], by simp [go_sem], by first | (simp; done) | (simp; omega)⟩ hb1
  have x5 : FBox w1 (w.heap.size + 2) (.string ⟨j.toArray⟩) (.string ⟨j'.toArray⟩) := FBox.below ⟨by simp [go_sem], by simp [go_sem], by simp [go_sem], by simp [go_sem], by first | (simp; done) | (simp; omega)⟩ hb1
  have hb : Below w.heap.size w w1 := bto (bto (bto (bto (below_alloc _ _) (below_alloc _ _)) (below_alloc _ _)) (below_alloc _ _)) hb1
  clear hb1
  rcases hres with ⟨rfl, -⟩ | ⟨rfl, hlen⟩
  · go_wp2_with fail
    ((with_reducible refine (cW.of hG hb).mono ?_); rintro e w2 ⟨rfl, hb2⟩)
    go_wp2
    go_ret
    exact ⟨rfl, bto hb hb2⟩
  · have h0 : l.length ≤ 60 := hlen 0 (by decide)
    have h1 : l'.length ≤ 60 := hlen 1 (by decide)
    have h2 : k.length ≤ 60 := hlen 2 (by decide)
    have h3 : k'.length ≤ 60 := hlen 3 (by decide)
    have h4 : j.length ≤ 60 := hlen 4 (by decide)
    have h5 : j'.length ≤ 60 := hlen 5 (by decide)
    clear hlen
    have iF := isq_raw h0 h1 (by decide)
    have iG := isq_raw h2 h3 (by decide)
    have iH := isq_raw h4 h5 (by decide)
    have bF : Bd 60 (fv l l') := bd_fv h0 h1 (by decide)
    have bG : Bd 60 (fv k k') := bd_fv h2 h3 (by decide)
    have bH : Bd 60 (fv j j') := bd_fv h4 h5 (by decide)
    generalize fv l l' = f at iF bF
    generalize fv k k' = g at iG bG
    generalize fv j j' = h at iH bH
    have bS := bd_add bF bG
    have bP := bd_mul bF bG
    have iS := isq_fr bS (by decide)
    have iP := isq_fr bP (by decide)
    have iY := isq_fr (bd_add bG bH) (by decide)
    have iV := isq_fr (bd_mul bG bH) (by decide)
    have iA := isq_fr (bd_mul bF bH) (by decide)
    have iE := isq_fr (bd_sub bG bF) (by decide)
    have c1 := rAdd iF iG rfl
    have c2 := rMul iF iG rfl
    have c3 := rAdd iG iF (Rat.add_comm g f)
    have c4 := rMul iG iF (Rat.mul_comm g f)
    have c5 := rAdd iS iH rfl
    have c6 := rAdd iG iH rfl
    have c7 := rAdd iF iY (Rat.add_assoc f g h).symm
    have c8 := rMul iP iH rfl
    have c9 := rMul iG iH rfl
    have c10 := rMul iF iV (Rat.mul_assoc f g h).symm
    have c11 := rMul iS iH rfl
    have c12 := rMul iF iH rfl
    have c13 := rAdd iA iV (Rat.add_mul f g h).symm
    have c14 := rAdd iF isq_zero (Rat.add_zero f)
    have c15 := rSub iS iG Rat.add_sub_cancel
    have c16 := rSub iF iG rfl
    have c17 := rSub iG iF rfl
    have c18 := rNeg iE (Rat.neg_sub g f)
    have c19 : g = 0 → Ret 31 _ _ := fun h0 => rQuo0 (l := fN (f * g)) (l' := fD (f * g)) iG h0
    have c20 : g ≠ 0 → Ret 31 _ _ := fun h0 => rQuo iP iG h0 (Rat.mul_div_cancel h0)
    obtain ⟨z, hz⟩ : ∃ z, cmpQ g 0 = z := ⟨_, rfl⟩
    have c21 := rCompare iG isq_zero hz
    have hzg : z = 0 ↔ g = 0 := by rw [← hz]; exact cmpQ_eq g 0
    generalize fN ((f + g) * h) = T0 at *
    generalize fD ((f + g) * h) = T1 at *
    generalize fN (f * g * h) = U0 at *
    generalize fD (f * g * h) = U1 at *
    generalize fN (f + g + h) = X0 at *
    generalize fD (f + g + h) = X1 at *
    generalize fN (f * g) = P0 at *
    generalize fD (f * g) = P1 at *
    generalize fN (f + g) = S0 at *
    generalize fD (f + g) = S1 at *
    generalize fN (g + h) = Y0 at *
    generalize fD (g + h) = Y1 at *
    generalize fN (g * h) = V0 at *
    generalize fD (g * h) = V1 at *
    generalize fN (f * h) = A0 at *
    generalize fD (f * h) = A1 at *
    generalize fN (f - g) = D0 at *
    generalize fD (f - g) = D1 at *
    generalize fN (g - f) = E0 at *
    generalize fD (g - f) = E1 at *
    generalize fN (f) = F0 at *
    generalize fD (f) = F1 at *
    clear iF iG iH bF bG bH bS bP iS iP iY iV iA iE hz h0 h1 h2 h3 h4 h5
    have HZ := Lib.hid hzg
    have H19 := Lib.hid c19
    have H20 := Lib.hid c20
    clear hzg c19 c20
    go_wp2_with fail
    refine wp_region_kept (by kernel_rfl) (by kernel_rfl) ?_
    refine kept_val _ (fun _ => rfl) (fun ρ w hw => by have q0 := (x3.below hw).c0; have q1 := (x3.below hw).c1; go_simp; first | done | with_reducible rfl) ?_
    simp only [Act.put, List.setIfInBounds_toArray, List.set_cons_zero, List.set_cons_succ, Nat.reduceAdd]
    refine kept_val _ (fun _ => rfl) (fun ρ w hw => by have q0 := (x4.below hw).c0; have q1 := (x4.below hw).c1; go_simp; first | done | with_reducible rfl) ?_
    simp only [Act.put, List.setIfInBounds_toArray, List.set_cons_zero, List.set_cons_succ, Nat.reduceAdd]
    refine kept_call _ _ _ (fun _ => rfl) (fun ρ w hw => by go_simp; first | done | with_reducible rfl) (fun w hw => c1.of hG (bto hb hw)) ?_
    simp only [Act.put, List.setIfInBounds_toArray, List.set_cons_zero, List.set_cons_succ, Nat.reduceAdd]
    refine kept_val _ (fun _ => rfl) (fun ρ w hw => by have q0 := (x3.below hw).c0; have q1 := (x3.below hw).c1; go_simp; first | done | with_reducible rfl) ?_
    simp only [Act.put, List.setIfInBounds_toArray, List.set_cons_zero, List.set_cons_succ, Nat.reduceAdd]
    refine kept_val _ (fun _ => rfl) (fun ρ w hw => by have q0 := (x4.below hw).c0; have q1 := (x4.below hw).c1; go_simp; first | done | with_reducible rfl) ?_
    simp only [Act.put, List.setIfInBounds_toArray, List.set_cons_zero, List.set_cons_succ, Nat.reduceAdd]
    refine kept_call _ _ _ (fun _ => rfl) (fun ρ w hw => by go_simp; first | done | with_reducible rfl) (fun w hw => c2.of hG (bto hb hw)) ?_
    simp only [Act.put, List.setIfInBounds_toArray, List.set_cons_zero, List.set_cons_succ, Nat.reduceAdd]
    refine kept_box (fun b => .pointer (some ⟨b, 0, none⟩)) _ rfl (fun _ => rfl) (fun ρ w hw => by go_simp; first | done | with_reducible rfl) ?_
    simp only [Act.put, List.setIfInBounds_toArray, List.set_cons_zero, List.set_cons_succ, Nat.reduceAdd]
    refine kept_box (fun b => .pointer (some ⟨b, 0, none⟩)) _ rfl (fun _ => rfl) (fun ρ w hw => by go_simp; first | done | with_reducible rfl) ?_
    simp only [Act.put, List.setIfInBounds_toArray, List.set_cons_zero, List.set_cons_succ, Nat.reduceAdd]
    refine kept_put2 6 _ 7 _ _ _ _ _ rfl rfl rfl (by decide) (fun _ => rfl) (fun ρ w hw q0 q1 q2 q3 => by go_simp; first | done | with_reducible rfl) ?_
    simp only [Act.put, Nat.reduceAdd]
    refine kept_put2 7 _ 8 _ _ _ _ _ rfl rfl rfl (by decide) (fun _ => rfl) (fun ρ w hw q0 q1 q2 q3 => by go_simp; first | done | with_reducible rfl) ?_
    simp only [Act.put, Nat.reduceAdd]
    refine kept_end (fun ρ w2 hF => ?_)
    replace x3 := x3.below hF.below
    replace x4 := x4.below hF.below
    replace x5 := x5.below hF.below
    replace hb := bto hb hF.below
    have x7 := FBox.ofB (hF.box 6 _ _ rfl).2
    generalize ρ 6 = b7 at *
    have x8 := FBox.ofB (hF.box 7 _ _ rfl).2
    generalize ρ 7 = b8 at *
    clear hF
    go_wp2_with fail
    refine wp_region_kept (by kernel_rfl) (by kernel_rfl) ?_
    refine kept_val _ (fun _ => rfl) (fun ρ w hw => by have q0 := (x7.below hw).c0; have q1 := (x7.below hw).c1; go_simp; first | done | with_reducible rfl) ?_
    simp only [Act.put, List.setIfInBounds_toArray, List.set_cons_zero, List.set_cons_succ, Nat.reduceAdd]
    refine kept_val _ (fun _ => rfl) (fun ρ w hw => by have q0 := (x4.below hw).c0; have q1 := (x4.below hw).c1; go_simp; first | done | with_reducible rfl) ?_
    simp only [Act.put, List.setIfInBounds_toArray, List.set_cons_zero, List.set_cons_succ, Nat.reduceAdd]
    refine kept_val _ (fun _ => rfl) (fun ρ w hw => by have q0 := (x3.below hw).c0; have q1 := (x3.below hw).c1; go_simp; first | done | with_reducible rfl) ?_
    simp only [Act.put, List.setIfInBounds_toArray, List.set_cons_zero, List.set_cons_succ, Nat.reduceAdd]
    refine kept_call _ _ _ (fun _ => rfl) (fun ρ w hw => by go_simp; first | done | with_reducible rfl) (fun w hw => c3.of hG (bto hb hw)) ?_
    simp only [Act.put, List.setIfInBounds_toArray, List.set_cons_zero, List.set_cons_succ, Nat.reduceAdd]
    refine kept_val _ (fun _ => rfl) (fun ρ w hw => by go_simp; first | done | with_reducible rfl) ?_
    simp only [Act.put, List.setIfInBounds_toArray, List.set_cons_zero, List.set_cons_succ, Nat.reduceAdd]
    refine kept_val _ (fun _ => rfl) (fun ρ w hw => by go_simp; first | done | with_reducible rfl) ?_
    simp only [Act.put, List.setIfInBounds_toArray, List.set_cons_zero, List.set_cons_succ, Nat.reduceAdd]
    refine kept_val _ (fun _ => rfl) (fun ρ w hw => by have q0 := (x8.below hw).c0; have q1 := (x8.below hw).c1; go_simp; first | done | with_reducible rfl) ?_
    simp only [Act.put, List.setIfInBounds_toArray, List.set_cons_zero, List.set_cons_succ, Nat.reduceAdd]
    refine kept_val _ (fun _ => rfl) (fun ρ w hw => by have q0 := (x4.below hw).c0; have q1 := (x4.below hw).c1; go_simp; first | done | with_reducible rfl) ?_
    simp only [Act.put, List.setIfInBounds_toArray, List.set_cons_zero, List.set_cons_succ, Nat.reduceAdd]
    refine kept_val _ (fun _ => rfl) (fun ρ w hw => by have q0 := (x3.below hw).c0; have q1 := (x3.below hw).c1; go_simp; first | done | with_reducible rfl) ?_
    simp only [Act.put, List.setIfInBounds_toArray, List.set_cons_zero, List.set_cons_succ, Nat.reduceAdd]
    refine kept_call _ _ _ (fun _ => rfl) (fun ρ w hw => by go_simp; first | done | with_reducible rfl) (fun w hw => c4.of hG (bto hb hw)) ?_
    simp only [Act.put, List.setIfInBounds_toArray, List.set_cons_zero, List.set_cons_succ, Nat.reduceAdd]
    refine kept_val _ (fun _ => rfl) (fun ρ w hw => by go_simp; first | done | with_reducible rfl) ?_
    simp only [Act.put, List.setIfInBounds_toArray, List.set_cons_zero, List.set_cons_succ, Nat.reduceAdd]
    refine kept_val _ (fun _ => rfl) (fun ρ w hw => by go_simp; first | done | with_reducible rfl) ?_
    simp only [Act.put, List.setIfInBounds_toArray, List.set_cons_zero, List.set_cons_succ, Nat.reduceAdd]
    refine kept_val _ (fun _ => rfl) (fun ρ w hw => by go_simp; first | done | with_reducible rfl) ?_
    simp only [Act.put, List.setIfInBounds_toArray, List.set_cons_zero, List.set_cons_succ, Nat.reduceAdd]
    refine kept_end (fun ρ w3 hF => ?_)
    replace x3 := x3.below hF.below
    replace x4 := x4.below hF.below
    replace x5 := x5.below hF.below
    replace x7 := x7.below hF.below
    replace x8 := x8.below hF.below
    replace hb := bto hb hF.below
    clear hF
    go_wp2_with fail
    refine wp_region_kept (by kernel_rfl) (by kernel_rfl) ?_
    refine kept_val _ (fun _ => rfl) (fun ρ w hw => by go_simp; first | done | with_reducible rfl) ?_
    simp only [Act.put, List.setIfInBounds_toArray, List.set_cons_zero, List.set_cons_succ, Nat.reduceAdd]
    refine kept_val _ (fun _ => rfl) (fun ρ w hw => by go_simp; first | done | with_reducible rfl) ?_
    simp only [Act.put, List.setIfInBounds_toArray, List.set_cons_zero, List.set_cons_succ, Nat.reduceAdd]
    refine kept_val _ (fun _ => rfl) (fun ρ w hw => by have q0 := (x7.below hw).c0; have q1 := (x7.below hw).c1; go_simp; first | done | with_reducible rfl) ?_
    simp only [Act.put, List.setIfInBounds_toArray, List.set_cons_zero, List.set_cons_succ, Nat.reduceAdd]
    refine kept_val _ (fun _ => rfl) (fun ρ w hw => by have q0 := (x5.below hw).c0; have q1 := (x5.below hw).c1; go_simp; first | done | with_reducible rfl) ?_
    simp only [Act.put, List.setIfInBounds_toArray, List.set_cons_zero, List.set_cons_succ, Nat.reduceAdd]
    refine kept_call _ _ _ (fun _ => rfl) (fun ρ w hw => by go_simp; first | done | with_reducible rfl) (fun w hw => c5.of hG (bto hb hw)) ?_
    simp only [Act.put, List.setIfInBounds_toArray, List.set_cons_zero, List.set_cons_succ, Nat.reduceAdd]
    refine kept_val _ (fun _ => rfl) (fun ρ w hw => by have q0 := (x3.below hw).c0; have q1 := (x3.below hw).c1; go_simp; first | done | with_reducible rfl) ?_
    simp only [Act.put, List.setIfInBounds_toArray, List.set_cons_zero, List.set_cons_succ, Nat.reduceAdd]
    refine kept_val _ (fun _ => rfl) (fun ρ w hw => by have q0 := (x4.below hw).c0; have q1 := (x4.below hw).c1; go_simp; first | done | with_reducible rfl) ?_
    simp only [Act.put, List.setIfInBounds_toArray, List.set_cons_zero, List.set_cons_succ, Nat.reduceAdd]
    refine kept_val _ (fun _ => rfl) (fun ρ w hw => by have q0 := (x5.below hw).c0; have q1 := (x5.below hw).c1; go_simp; first | done | with_reducible rfl) ?_
    simp only [Act.put, List.setIfInBounds_toArray, List.set_cons_zero, List.set_cons_succ, Nat.reduceAdd]
    refine kept_call _ _ _ (fun _ => rfl) (fun ρ w hw => by go_simp; first | done | with_reducible rfl) (fun w hw => c6.of hG (bto hb hw)) ?_
    simp only [Act.put, List.setIfInBounds_toArray, List.set_cons_zero, List.set_cons_succ, Nat.reduceAdd]
    refine kept_call _ _ _ (fun _ => rfl) (fun ρ w hw => by go_simp; first | done | with_reducible rfl) (fun w hw => c7.of hG (bto hb hw)) ?_
    simp only [Act.put, List.setIfInBounds_toArray, List.set_cons_zero, List.set_cons_succ, Nat.reduceAdd]
    refine kept_val _ (fun _ => rfl) (fun ρ w hw => by go_simp; first | done | with_reducible rfl) ?_
    simp only [Act.put, List.setIfInBounds_toArray, List.set_cons_zero, List.set_cons_succ, Nat.reduceAdd]
    refine kept_val _ (fun _ => rfl) (fun ρ w hw => by go_simp; first | done | with_reducible rfl) ?_
    simp only [Act.put, List.setIfInBounds_toArray, List.set_cons_zero, List.set_cons_succ, Nat.reduceAdd]
    refine kept_val _ (fun _ => rfl) (fun ρ w hw => by go_simp; first | done | with_reducible rfl) ?_
    simp only [Act.put, List.setIfInBounds_toArray, List.set_cons_zero, List.set_cons_succ, Nat.reduceAdd]
    refine kept_val _ (fun _ => rfl) (fun ρ w hw => by have q0 := (x8.below hw).c0; have q1 := (x8.below hw).c1; go_simp; first | done | with_reducible rfl) ?_
    simp only [Act.put, List.setIfInBounds_toArray, List.set_cons_zero, List.set_cons_succ, Nat.reduceAdd]
    refine kept_val _ (fun _ => rfl) (fun ρ w hw => by have q0 := (x5.below hw).c0; have q1 := (x5.below hw).c1; go_simp; first | done | with_reducible rfl) ?_
    simp only [Act.put, List.setIfInBounds_toArray, List.set_cons_zero, List.set_cons_succ, Nat.reduceAdd]
    refine kept_call _ _ _ (fun _ => rfl) (fun ρ w hw => by go_simp; first | done | with_reducible rfl) (fun w hw => c8.of hG (bto hb hw)) ?_
    simp only [Act.put, List.setIfInBounds_toArray, List.set_cons_zero, List.set_cons_succ, Nat.reduceAdd]
    refine kept_val _ (fun _ => rfl) (fun ρ w hw => by have q0 := (x3.below hw).c0; have q1 := (x3.below hw).c1; go_simp; first | done | with_reducible rfl) ?_
    simp only [Act.put, List.setIfInBounds_toArray, List.set_cons_zero, List.set_cons_succ, Nat.reduceAdd]
    refine kept_val _ (fun _ => rfl) (fun ρ w hw => by have q0 := (x4.below hw).c0; have q1 := (x4.below hw).c1; go_simp; first | done | with_reducible rfl) ?_
    simp only [Act.put, List.setIfInBounds_toArray, List.set_cons_zero, List.set_cons_succ, Nat.reduceAdd]
    refine kept_val _ (fun _ => rfl) (fun ρ w hw => by have q0 := (x5.below hw).c0; have q1 := (x5.below hw).c1; go_simp; first | done | with_reducible rfl) ?_
    simp only [Act.put, List.setIfInBounds_toArray, List.set_cons_zero, List.set_cons_succ, Nat.reduceAdd]
    refine kept_call _ _ _ (fun _ => rfl) (fun ρ w hw => by go_simp; first | done | with_reducible rfl) (fun w hw => c9.of hG (bto hb hw)) ?_
    simp only [Act.put, List.setIfInBounds_toArray, List.set_cons_zero, List.set_cons_succ, Nat.reduceAdd]
    refine kept_call _ _ _ (fun _ => rfl) (fun ρ w hw => by go_simp; first | done | with_reducible rfl) (fun w hw => c10.of hG (bto hb hw)) ?_
    simp only [Act.put, List.setIfInBounds_toArray, List.set_cons_zero, List.set_cons_succ, Nat.reduceAdd]
    refine kept_val _ (fun _ => rfl) (fun ρ w hw => by go_simp; first | done | with_reducible rfl) ?_
    simp only [Act.put, List.setIfInBounds_toArray, List.set_cons_zero, List.set_cons_succ, Nat.reduceAdd]
    refine kept_val _ (fun _ => rfl) (fun ρ w hw => by go_simp; first | done | with_reducible rfl) ?_
    simp only [Act.put, List.setIfInBounds_toArray, List.set_cons_zero, List.set_cons_succ, Nat.reduceAdd]
    refine kept_val _ (fun _ => rfl) (fun ρ w hw => by go_simp; first | done | with_reducible rfl) ?_
    simp only [Act.put, List.setIfInBounds_toArray, List.set_cons_zero, List.set_cons_succ, Nat.reduceAdd]
    refine kept_end (fun ρ w4 hF => ?_)
    replace x3 := x3.below hF.below
    replace x4 := x4.below hF.below
    replace x5 := x5.below hF.below
    replace x7 := x7.below hF.below
    replace x8 := x8.below hF.below
    replace hb := bto hb hF.below
    clear hF
    go_wp2_with fail
    refine wp_region_kept (by kernel_rfl) (by kernel_rfl) ?_
    refine kept_val _ (fun _ => rfl) (fun ρ w hw => by go_simp; first | done | with_reducible rfl) ?_
    simp only [Act.put, List.setIfInBounds_toArray, List.set_cons_zero, List.set_cons_succ, Nat.reduceAdd]
    refine kept_val _ (fun _ => rfl) (fun ρ w hw => by go_simp; first | done | with_reducible rfl) ?_
    simp only [Act.put, List.setIfInBounds_toArray, List.set_cons_zero, List.set_cons_succ, Nat.reduceAdd]
    refine kept_val _ (fun _ => rfl) (fun ρ w hw => by have q0 := (x7.below hw).c0; have q1 := (x7.below hw).c1; go_simp; first | done | with_reducible rfl) ?_
    simp only [Act.put, List.setIfInBounds_toArray, List.set_cons_zero, List.set_cons_succ, Nat.reduceAdd]
    refine kept_val _ (fun _ => rfl) (fun ρ w hw => by have q0 := (x5.below hw).c0; have q1 := (x5.below hw).c1; go_simp; first | done | with_reducible rfl) ?_
    simp only [Act.put, List.setIfInBounds_toArray, List.set_cons_zero, List.set_cons_succ, Nat.reduceAdd]
    refine kept_call _ _ _ (fun _ => rfl) (fun ρ w hw => by go_simp; first | done | with_reducible rfl) (fun w hw => c11.of hG (bto hb hw)) ?_
    simp only [Act.put, List.setIfInBounds_toArray, List.set_cons_zero, List.set_cons_succ, Nat.reduceAdd]
    refine kept_val _ (fun _ => rfl) (fun ρ w hw => by have q0 := (x3.below hw).c0; have q1 := (x3.below hw).c1; go_simp; first | done | with_reducible rfl) ?_
    simp only [Act.put, List.setIfInBounds_toArray, List.set_cons_zero, List.set_cons_succ, Nat.reduceAdd]
    refine kept_val _ (fun _ => rfl) (fun ρ w hw => by have q0 := (x5.below hw).c0; have q1 := (x5.below hw).c1; go_simp; first | done | with_reducible rfl) ?_
    simp only [Act.put, List.setIfInBounds_toArray, List.set_cons_zero, List.set_cons_succ, Nat.reduceAdd]
    refine kept_call _ _ _ (fun _ => rfl) (fun ρ w hw => by go_simp; first | done | with_reducible rfl) (fun w hw => c12.of hG (bto hb hw)) ?_
    simp only [Act.put, List.setIfInBounds_toArray, List.set_cons_zero, List.set_cons_succ, Nat.reduceAdd]
    refine kept_val _ (fun _ => rfl) (fun ρ w hw => by have q0 := (x4.below hw).c0; have q1 := (x4.below hw).c1; go_simp; first | done | with_reducible rfl) ?_
    simp only [Act.put, List.setIfInBounds_toArray, List.set_cons_zero, List.set_cons_succ, Nat.reduceAdd]
    refine kept_val _ (fun _ => rfl) (fun ρ w hw => by have q0 := (x5.below hw).c0; have q1 := (x5.below hw).c1; go_simp; first | done | with_reducible rfl) ?_
    simp only [Act.put, List.setIfInBounds_toArray, List.set_cons_zero, List.set_cons_succ, Nat.reduceAdd]
    refine kept_call _ _ _ (fun _ => rfl) (fun ρ w hw => by go_simp; first | done | with_reducible rfl) (fun w hw => c9.of hG (bto hb hw)) ?_
    simp only [Act.put, List.setIfInBounds_toArray, List.set_cons_zero, List.set_cons_succ, Nat.reduceAdd]
    refine kept_call _ _ _ (fun _ => rfl) (fun ρ w hw => by go_simp; first | done | with_reducible rfl) (fun w hw => c13.of hG (bto hb hw)) ?_
    simp only [Act.put, List.setIfInBounds_toArray, List.set_cons_zero, List.set_cons_succ, Nat.reduceAdd]
    refine kept_val _ (fun _ => rfl) (fun ρ w hw => by go_simp; first | done | with_reducible rfl) ?_
    simp only [Act.put, List.setIfInBounds_toArray, List.set_cons_zero, List.set_cons_succ, Nat.reduceAdd]
    refine kept_val _ (fun _ => rfl) (fun ρ w hw => by go_simp; first | done | with_reducible rfl) ?_
    simp only [Act.put, List.setIfInBounds_toArray, List.set_cons_zero, List.set_cons_succ, Nat.reduceAdd]
    refine kept_val _ (fun _ => rfl) (fun ρ w hw => by go_simp; first | done | with_reducible rfl) ?_
    simp only [Act.put, List.setIfInBounds_toArray, List.set_cons_zero, List.set_cons_succ, Nat.reduceAdd]
    refine kept_end (fun ρ w5 hF => ?_)
    replace x3 := x3.below hF.below
    replace x4 := x4.below hF.below
    replace x5 := x5.below hF.below
    replace x7 := x7.below hF.below
    replace x8 := x8.below hF.below
    replace hb := bto hb hF.below
    clear hF
    have qx3a := x3.c0
    have qx3b := x3.c1
    go_wp2_with fail
    ((with_reducible refine (c14.of hG hb).mono ?_); rintro e w6 ⟨rfl, hb6⟩)
    clear qx3a qx3b
    replace x3 := x3.below hb6
    replace x4 := x4.below hb6
    replace x5 := x5.below hb6
    replace x7 := x7.below hb6
    replace x8 := x8.below hb6
    replace hb := bto hb hb6
    clear hb6
    replace x3 := x3.below (below_alloc w6 (.cells #[.string ⟨F0.toArray⟩, .string ⟨F1.toArray⟩] 24))
    replace x4 := x4.below (below_alloc w6 (.cells #[.string ⟨F0.toArray⟩, .string ⟨F1.toArray⟩] 24))
    replace x5 := x5.below (below_alloc w6 (.cells #[.string ⟨F0.toArray⟩, .string ⟨F1.toArray⟩] 24))
    replace x7 := x7.below (below_alloc w6 (.cells #[.string ⟨F0.toArray⟩, .string ⟨F1.toArray⟩] 24))
    replace x8 := x8.below (below_alloc w6 (.cells #[.string ⟨F0.toArray⟩, .string ⟨F1.toArray⟩] 24))
    have x10 := FBox.new w6 (.string ⟨F0.toArray⟩) (.string ⟨F1.toArray⟩) 24
    replace hb := bto hb (below_alloc w6 (.cells #[.string ⟨F0.toArray⟩, .string ⟨F1.toArray⟩] 24))
    go_wp2_with fail
    refine wp_region_kept (by kernel_rfl) (by kernel_rfl) ?_
    refine kept_val _ (fun _ => rfl) (fun ρ w hw => by go_simp; first | done | with_reducible rfl) ?_
    simp only [Act.put, List.setIfInBounds_toArray, List.set_cons_zero, List.set_cons_succ, Nat.reduceAdd]
    refine kept_val _ (fun _ => rfl) (fun ρ w hw => by go_simp; first | done | with_reducible rfl) ?_
    simp only [Act.put, List.setIfInBounds_toArray, List.set_cons_zero, List.set_cons_succ, Nat.reduceAdd]
    refine kept_val _ (fun _ => rfl) (fun ρ w hw => by have q0 := (x7.below hw).c0; have q1 := (x7.below hw).c1; go_simp; first | done | with_reducible rfl) ?_
    simp only [Act.put, List.setIfInBounds_toArray, List.set_cons_zero, List.set_cons_succ, Nat.reduceAdd]
    refine kept_val _ (fun _ => rfl) (fun ρ w hw => by have q0 := (x4.below hw).c0; have q1 := (x4.below hw).c1; go_simp; first | done | with_reducible rfl) ?_
    simp only [Act.put, List.setIfInBounds_toArray, List.set_cons_zero, List.set_cons_succ, Nat.reduceAdd]
    refine kept_call _ _ _ (fun _ => rfl) (fun ρ w hw => by go_simp; first | done | with_reducible rfl) (fun w hw => c15.of hG (bto hb hw)) ?_
    simp only [Act.put, List.setIfInBounds_toArray, List.set_cons_zero, List.set_cons_succ, Nat.reduceAdd]
    refine kept_val _ (fun _ => rfl) (fun ρ w hw => by have q0 := (x10.below hw).c0; have q1 := (x10.below hw).c1; go_simp; first | done | with_reducible rfl) ?_
    simp only [Act.put, List.setIfInBounds_toArray, List.set_cons_zero, List.set_cons_succ, Nat.reduceAdd]
    refine kept_val _ (fun _ => rfl) (fun ρ w hw => by go_simp; first | done | with_reducible rfl) ?_
    simp only [Act.put, List.setIfInBounds_toArray, List.set_cons_zero, List.set_cons_succ, Nat.reduceAdd]
    refine kept_val _ (fun _ => rfl) (fun ρ w hw => by go_simp; first | done | with_reducible rfl) ?_
    simp only [Act.put, List.setIfInBounds_toArray, List.set_cons_zero, List.set_cons_succ, Nat.reduceAdd]
    refine kept_val _ (fun _ => rfl) (fun ρ w hw => by go_simp; first | done | with_reducible rfl) ?_
    simp only [Act.put, List.setIfInBounds_toArray, List.set_cons_zero, List.set_cons_succ, Nat.reduceAdd]
    refine kept_val _ (fun _ => rfl) (fun ρ w hw => by have q0 := (x3.below hw).c0; have q1 := (x3.below hw).c1; go_simp; first | done | with_reducible rfl) ?_
    simp only [Act.put, List.setIfInBounds_toArray, List.set_cons_zero, List.set_cons_succ, Nat.reduceAdd]
    refine kept_val _ (fun _ => rfl) (fun ρ w hw => by have q0 := (x4.below hw).c0; have q1 := (x4.below hw).c1; go_simp; first | done | with_reducible rfl) ?_
    simp only [Act.put, List.setIfInBounds_toArray, List.set_cons_zero, List.set_cons_succ, Nat.reduceAdd]
    refine kept_call _ _ _ (fun _ => rfl) (fun ρ w hw => by go_simp; first | done | with_reducible rfl) (fun w hw => c16.of hG (bto hb hw)) ?_
    simp only [Act.put, List.setIfInBounds_toArray, List.set_cons_zero, List.set_cons_succ, Nat.reduceAdd]
    refine kept_val _ (fun _ => rfl) (fun ρ w hw => by have q0 := (x4.below hw).c0; have q1 := (x4.below hw).c1; go_simp; first | done | with_reducible rfl) ?_
    simp only [Act.put, List.setIfInBounds_toArray, List.set_cons_zero, List.set_cons_succ, Nat.reduceAdd]
    refine kept_val _ (fun _ => rfl) (fun ρ w hw => by have q0 := (x3.below hw).c0; have q1 := (x3.below hw).c1; go_simp; first | done | with_reducible rfl) ?_
    simp only [Act.put, List.setIfInBounds_toArray, List.set_cons_zero, List.set_cons_succ, Nat.reduceAdd]
    refine kept_call _ _ _ (fun _ => rfl) (fun ρ w hw => by go_simp; first | done | with_reducible rfl) (fun w hw => c17.of hG (bto hb hw)) ?_
    simp only [Act.put, List.setIfInBounds_toArray, List.set_cons_zero, List.set_cons_succ, Nat.reduceAdd]
    refine kept_call _ _ _ (fun _ => rfl) (fun ρ w hw => by go_simp; first | done | with_reducible rfl) (fun w hw => c18.of hG (bto hb hw)) ?_
    simp only [Act.put, List.setIfInBounds_toArray, List.set_cons_zero, List.set_cons_succ, Nat.reduceAdd]
    refine kept_val _ (fun _ => rfl) (fun ρ w hw => by go_simp; first | done | with_reducible rfl) ?_
    simp only [Act.put, List.setIfInBounds_toArray, List.set_cons_zero, List.set_cons_succ, Nat.reduceAdd]
    refine kept_val _ (fun _ => rfl) (fun ρ w hw => by go_simp; first | done | with_reducible rfl) ?_
    simp only [Act.put, List.setIfInBounds_toArray, List.set_cons_zero, List.set_cons_succ, Nat.reduceAdd]
    refine kept_val _ (fun _ => rfl) (fun ρ w hw => by go_simp; first | done | with_reducible rfl) ?_
    simp only [Act.put, List.setIfInBounds_toArray, List.set_cons_zero, List.set_cons_succ, Nat.reduceAdd]
    refine kept_end (fun ρ w7 hF => ?_)
    replace x3 := x3.below hF.below
    replace x4 := x4.below hF.below
    replace x5 := x5.below hF.below
    replace x7 := x7.below hF.below
    replace x8 := x8.below hF.below
    replace x10 := x10.below hF.below
    replace hb := bto hb hF.below
    clear hF
    by_cases hg0 : g = 0
    · have c19 := H19.out hg0
      have z0 : (z == 0) = true := by rw [beq_iff_eq]; exact HZ.out.2 hg0
      clear H19 H20 HZ hg0
      have qx8a := x8.c0
      have qx8b := x8.c1
      have qx4a := x4.c0
      have qx4b := x4.c1
      go_wp2_with fail
      ((with_reducible refine (c19.of hG hb).mono ?_); rintro e w8 ⟨rfl, hb8⟩)
      clear qx8a qx8b qx4a qx4b
      replace x3 := x3.below hb8
      replace x4 := x4.below hb8
      replace x5 := x5.below hb8
      replace x7 := x7.below hb8
      replace x8 := x8.below hb8
      replace x10 := x10.below hb8
      replace hb := bto hb hb8
      clear hb8
      replace x3 := x3.below (below_alloc w8 (.cells #[.string ⟨#[]⟩, .string ⟨#[]⟩] 24))
      replace x4 := x4.below (below_alloc w8 (.cells #[.string ⟨#[]⟩, .string ⟨#[]⟩] 24))
      replace x5 := x5.below (below_alloc w8 (.cells #[.string ⟨#[]⟩, .string ⟨#[]⟩] 24))
      replace x7 := x7.below (below_alloc w8 (.cells #[.string ⟨#[]⟩, .string ⟨#[]⟩] 24))
      replace x8 := x8.below (below_alloc w8 (.cells #[.string ⟨#[]⟩, .string ⟨#[]⟩] 24))
      replace x10 := x10.below (below_alloc w8 (.cells #[.string ⟨#[]⟩, .string ⟨#[]⟩] 24))
      have x11 := FBox.new w8 (.string ⟨#[]⟩) (.string ⟨#[]⟩) 24
      replace hb := bto hb (below_alloc w8 (.cells #[.string ⟨#[]⟩, .string ⟨#[]⟩] 24))
      have qx4a := x4.c0
      have qx4b := x4.c1
      go_wp2_with fail
      ((with_reducible refine (c21.of hG hb).mono ?_); rintro e w9 ⟨rfl, hb9⟩)
      clear qx4a qx4b
      replace x3 := x3.below hb9
      replace x4 := x4.below hb9
      replace x5 := x5.below hb9
      replace x7 := x7.below hb9
      replace x8 := x8.below hb9
      replace x10 := x10.below hb9
      replace x11 := x11.below hb9
      replace hb := bto hb hb9
      clear hb9
      have qx11a := x11.c0
      have qx11b := x11.c1
      have qx10a := x10.c0
      have qx10b := x10.c1
      go_wp2_with fail
      ((with_reducible refine (cW.of hG hb).mono ?_); rintro e w10 ⟨rfl, hb10⟩)
      replace x3 := x3.below hb10
      replace x4 := x4.below hb10
      replace x5 := x5.below hb10
      replace x7 := x7.below hb10
      replace x8 := x8.below hb10
      replace x10 := x10.below hb10
      replace x11 := x11.below hb10
      replace hb := bto hb hb10
      clear hb10
      go_wp2
      go_ret
      exact ⟨rfl, hb⟩
    · have c20 := H20.out hg0
      have z0 : (z == 0) = false := by rw [beq_eq_false_iff_ne]; exact fun e => hg0 (HZ.out.1 e)
      clear H19 H20 HZ hg0
      have qx8a := x8.c0
      have qx8b := x8.c1
      have qx4a := x4.c0
      have qx4b := x4.c1
      go_wp2_with fail
      ((with_reducible refine (c20.of hG hb).mono ?_); rintro e w8 ⟨rfl, hb8⟩)
      clear qx8a qx8b qx4a qx4b
      replace x3 := x3.below hb8
      replace x4 := x4.below hb8
      replace x5 := x5.below hb8
      replace x7 := x7.below hb8
      replace x8 := x8.below hb8
      replace x10 := x10.below hb8
      replace hb := bto hb hb8
      clear hb8
      replace x3 := x3.below (below_alloc w8 (.cells #[.string ⟨F0.toArray⟩, .string ⟨F1.toArray⟩] 24))
      replace x4 := x4.below (below_alloc w8 (.cells #[.string ⟨F0.toArray⟩, .string ⟨F1.toArray⟩] 24))
      replace x5 := x5.below (below_alloc w8 (.cells #[.string ⟨F0.toArray⟩, .string ⟨F1.toArray⟩] 24))
      replace x7 := x7.below (below_alloc w8 (.cells #[.string ⟨F0.toArray⟩, .string ⟨F1.toArray⟩] 24))
      replace x8 := x8.below (below_alloc w8 (.cells #[.string ⟨F0.toArray⟩, .string ⟨F1.toArray⟩] 24))
      replace x10 := x10.below (below_alloc w8 (.cells #[.string ⟨F0.toArray⟩, .string ⟨F1.toArray⟩] 24))
      have x11 := FBox.new w8 (.string ⟨F0.toArray⟩) (.string ⟨F1.toArray⟩) 24
      replace hb := bto hb (below_alloc w8 (.cells #[.string ⟨F0.toArray⟩, .string ⟨F1.toArray⟩] 24))
      have qx4a := x4.c0
      have qx4b := x4.c1
      go_wp2_with fail
      ((with_reducible refine (c21.of hG hb).mono ?_); rintro e w9 ⟨rfl, hb9⟩)
      clear qx4a qx4b
      replace x3 := x3.below hb9
      replace x4 := x4.below hb9
      replace x5 := x5.below hb9
      replace x7 := x7.below hb9
      replace x8 := x8.below hb9
      replace x10 := x10.below hb9
      replace x11 := x11.below hb9
      replace hb := bto hb hb9
      clear hb9
      have qx11a := x11.c0
      have qx11b := x11.c1
      have qx10a := x10.c0
      have qx10b := x10.c1
      go_wp2_with fail
      ((with_reducible refine (cW.of hG hb).mono ?_); rintro e w10 ⟨rfl, hb10⟩)
      replace x3 := x3.below hb10
      replace x4 := x4.below hb10
      replace x5 := x5.below hb10
      replace x7 := x7.below hb10
      replace x8 := x8.below hb10
      replace x10 := x10.below hb10
      replace x11 := x11.below hb10
      replace hb := bto hb hb10
      clear hb10
      go_wp2
      go_ret
      exact ⟨rfl, hb⟩
end Go.Proofs.YtjhafnnfkaejgaaGreatDoor
