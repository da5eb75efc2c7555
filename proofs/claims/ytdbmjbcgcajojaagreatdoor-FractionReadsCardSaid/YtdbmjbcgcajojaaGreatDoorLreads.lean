/- FractionReads. -/
import Derived.Test.YtdbmjbcgcajojaaGreatDoorCd
namespace Go.Proofs.YtdbmjbcgcajojaaGreatDoor
open Go.RowKit Num

set_option maxHeartbeats 4000000 in
set_option maxRecDepth 100000 in
theorem reads_law (l l' k k' : List UInt8) (w : World) (hG : Glob w) :
    Calls Tryz.prog 3 #[(Value.agg #[Value.string ⟨List.toArray l⟩, Value.string ⟨List.toArray l'⟩]), (Value.agg #[Value.string ⟨List.toArray k⟩, Value.string ⟨List.toArray k'⟩])] w fun e w' => e = .returned (.bool true) ∧ Below w.heap.size w w' := by
  have cW := rAwake
  go_enter Tryz.func3, Tryz.ntmps3
  go_wp2_with fail
  ((with_reducible refine (great_any _ 2 2 (fun i => [l, l', k, k'].getD i []) _ (by decide) ?_).mono ?_))
  · intro i hi
    have hi : i = 0 ∨ i = 1 ∨ i = 2 ∨ i = 3 := by omega
    rcases hi with rfl | rfl | rfl | rfl <;> simp [go_sem]
  rintro e w1 ⟨hres, hb1⟩
  have x2 : FBox w1 (w.heap.size) (.string ⟨l.toArray⟩) (.string ⟨l'.toArray⟩) := FBox.below ⟨by simp [go_sem], by simp [go_sem], by simp [go_sem], by simp [go_sem], by first | (simp; done) | (simp; omega)⟩ hb1
  have x3 : FBox w1 (w.heap.size + 1) (.string ⟨k.toArray⟩) (.string ⟨k'.toArray⟩) := FBox.below ⟨by simp [go_sem], by simp [go_sem], by simp [go_sem], by simp [go_sem], by first | (simp; done) | (simp; omega)⟩ hb1
  have hb : Below w.heap.size w w1 := bto (bto (bto (below_alloc _ _) (below_alloc _ _)) (below_alloc _ _)) hb1
  clear hb1
  rcases hres with ⟨rfl, -⟩ | ⟨rfl, hlen⟩
  · go_wp2_with fail
    ((with_reducible refine (cW.of hG hb).mono ?_); rintro e w2 ⟨rfl, hb2⟩)
    go_wp2
    go_ret
    exact ⟨rfl, bto hb hb2⟩
  · have h0 : l.length ≤ 60 := hlen 0 (by decide)
    have h1 : l'.length ≤ 60 := hlen 1 (by decide)
    have h2 : k.length ≤ 60 := hlen 2 (by decide)
    have h3 : k'.length ≤ 60 := hlen 3 (by decide)
    clear hlen
    have iF := isq_raw h0 h1 (by decide)
    have iG := isq_raw h2 h3 (by decide)
    have bF : Bd 60 (fv l l') := bd_fv h0 h1 (by decide)
    have bl := bd_len bF
    have c1 := rParts iF
    have c2 := sParts (l := l) (l' := l') (q := fv l l') (by omega) (by omega) (by omega) (by omega) rfl
    obtain ⟨N, D, ec, c3, c4⟩ := new_both (l := l) (l' := k) (by omega) (by omega)
    obtain ⟨ck, hck⟩ : ∃ c : Int, (if l = fN (fv l l') ∧ l' = fD (fv l l') then 0 else 1) = c := ⟨_, rfl⟩
    have c5 := rCheck iF hck
    have c6 := sCheck (l := l) (l' := l') (by omega) (by omega) rfl hck
    have c7 := rOf (l := l) (by omega) rfl
    have c8 := sOf (l := l) (q := ((val l : Int) : Rat)) (by omega) (divInt_one (val l))
    obtain ⟨cm, hcm⟩ : ∃ c : Int, cmpQ (fv l l') (fv k k') = c := ⟨_, rfl⟩
    have c9 := rCompare iF iG hcm
    have c10 := sCompare (l := l) (l' := l') (k := k) (k' := k') (by omega) (by omega) (by omega) (by omega) hcm
    obtain ⟨z, hz⟩ : ∃ z, (fv l l').floor = z := ⟨_, rfl⟩
    have c11 := rFloor iF hz
    have c12 := sFloor (l := l) (l' := l') (by omega) (by omega) hz
    generalize fN (fv l l') = P0 at *
    generalize fD (fv l l') = P1 at *
    generalize canon ((fv l l').den : Int) = P2 at *
    generalize fN ((val l : Int) : Rat) = O0 at *
    generalize fD ((val l : Int) : Rat) = O1 at *
    generalize canon z = Z at *
    clear iF iG bF bl hck hcm hz h0 h1 h2 h3
    have qx2a := x2.c0
    have qx2b := x2.c1
    go_wp2_with fail
    ((with_reducible refine (c1.of hG hb).mono ?_); rintro e w2 ⟨rfl, hb2⟩)
    clear qx2a qx2b
    replace x2 := x2.below hb2
    replace x3 := x3.below hb2
    replace hb := bto hb hb2
    clear hb2
    have qx2a := x2.c0
    have qx2b := x2.c1
    go_wp2_with fail
    ((with_reducible refine (c2.of hG hb).mono ?_); rintro e w3 ⟨rfl, hb3⟩)
    clear qx2a qx2b
    replace x2 := x2.below hb3
    replace x3 := x3.below hb3
    replace hb := bto hb hb3
    clear hb3
    have qx2a := x2.c0
    have qx2b := x2.c1
    have qx3a := x3.c0
    have qx3b := x3.c1
    go_wp2_with fail
    ((with_reducible refine (c3.of hG hb).mono ?_); rintro e w4 ⟨rfl, hb4⟩)
    clear qx2a qx2b qx3a qx3b
    replace x2 := x2.below hb4
    replace x3 := x3.below hb4
    replace hb := bto hb hb4
    clear hb4
    replace x2 := x2.below (below_alloc w4 (.cells #[.string ⟨N.toArray⟩, .string ⟨D.toArray⟩] 24))
    replace x3 := x3.below (below_alloc w4 (.cells #[.string ⟨N.toArray⟩, .string ⟨D.toArray⟩] 24))
    have x9 := FBox.new w4 (.string ⟨N.toArray⟩) (.string ⟨D.toArray⟩) 24
    replace hb := bto hb (below_alloc w4 (.cells #[.string ⟨N.toArray⟩, .string ⟨D.toArray⟩] 24))
    have qx2a := x2.c0
    have qx2b := x2.c1
    have qx3a := x3.c0
    have qx3b := x3.c1
    go_wp2_with fail
    ((with_reducible refine (c4.of hG hb).mono ?_); rintro e w5 ⟨rfl, hb5⟩)
    clear qx2a qx2b qx3a qx3b
    replace x2 := x2.below hb5
    replace x3 := x3.below hb5
    replace x9 := x9.below hb5
    replace hb := bto hb hb5
    clear hb5
    replace x2 := x2.below (below_alloc w5 (.cells #[.string ⟨N.toArray⟩, .string ⟨D.toArray⟩] 24))
    replace x3 := x3.below (below_alloc w5 (.cells #[.string ⟨N.toArray⟩, .string ⟨D.toArray⟩] 24))
    replace x9 := x9.below (below_alloc w5 (.cells #[.string ⟨N.toArray⟩, .string ⟨D.toArray⟩] 24))
    have x11 := FBox.new w5 (.string ⟨N.toArray⟩) (.string ⟨D.toArray⟩) 24
    replace hb := bto hb (below_alloc w5 (.cells #[.string ⟨N.toArray⟩, .string ⟨D.toArray⟩] 24))
    go_wp2_with fail
    refine wp_region_kept (by kernel_rfl) (by kernel_rfl) ?_
    refine kept_val _ (fun _ => rfl) (fun ρ w hw => by have q0 := (x2.below hw).c0; have q1 := (x2.below hw).c1; go_simp; first | done | with_reducible rfl) ?_
    simp only [Act.put, List.setIfInBounds_toArray, List.set_cons_zero, List.set_cons_succ, Nat.reduceAdd]
    refine kept_call _ _ _ (fun _ => rfl) (fun ρ w hw => by go_simp; first | done | with_reducible rfl) (fun w hw => c5.of hG (bto hb hw)) ?_
    simp only [Act.put, List.setIfInBounds_toArray, List.set_cons_zero, List.set_cons_succ, Nat.reduceAdd]
    refine kept_val _ (fun _ => rfl) (fun ρ w hw => by have q0 := (x2.below hw).c0; have q1 := (x2.below hw).c1; go_simp; first | done | with_reducible rfl) ?_
    simp only [Act.put, List.setIfInBounds_toArray, List.set_cons_zero, List.set_cons_succ, Nat.reduceAdd]
    refine kept_call _ _ _ (fun _ => rfl) (fun ρ w hw => by go_simp; first | done | with_reducible rfl) (fun w hw => c6.of hG (bto hb hw)) ?_
    simp only [Act.put, List.setIfInBounds_toArray, List.set_cons_zero, List.set_cons_succ, Nat.reduceAdd]
    refine kept_val _ (fun _ => rfl) (fun ρ w hw => by go_simp; first | done | with_reducible rfl) ?_
    simp only [Act.put, List.setIfInBounds_toArray, List.set_cons_zero, List.set_cons_succ, Nat.reduceAdd]
    refine kept_val _ (fun _ => rfl) (fun ρ w hw => by go_simp; first | done | with_reducible rfl) ?_
    simp only [Act.put, List.setIfInBounds_toArray, List.set_cons_zero, List.set_cons_succ, Nat.reduceAdd]
    refine kept_val _ (fun _ => rfl) (fun ρ w hw => by go_simp; first | done | with_reducible rfl) ?_
    simp only [Act.put, List.setIfInBounds_toArray, List.set_cons_zero, List.set_cons_succ, Nat.reduceAdd]
    refine kept_val _ (fun _ => rfl) (fun ρ w hw => by go_simp; first | done | with_reducible rfl) ?_
    simp only [Act.put, List.setIfInBounds_toArray, List.set_cons_zero, List.set_cons_succ, Nat.reduceAdd]
    refine kept_val _ (fun _ => rfl) (fun ρ w hw => by go_simp; first | done | with_reducible rfl) ?_
    simp only [Act.put, List.setIfInBounds_toArray, List.set_cons_zero, List.set_cons_succ, Nat.reduceAdd]
    refine kept_val _ (fun _ => rfl) (fun ρ w hw => by go_simp; first | done | with_reducible rfl) ?_
    simp only [Act.put, List.setIfInBounds_toArray, List.set_cons_zero, List.set_cons_succ, Nat.reduceAdd]
    refine kept_val _ (fun _ => rfl) (fun ρ w hw => by go_simp; first | done | with_reducible rfl) ?_
    simp only [Act.put, List.setIfInBounds_toArray, List.set_cons_zero, List.set_cons_succ, Nat.reduceAdd]
    refine kept_val _ (fun _ => rfl) (fun ρ w hw => by go_simp; first | done | with_reducible rfl) ?_
    simp only [Act.put, List.setIfInBounds_toArray, List.set_cons_zero, List.set_cons_succ, Nat.reduceAdd]
    refine kept_val _ (fun _ => rfl) (fun ρ w hw => by go_simp; first | done | with_reducible rfl) ?_
    simp only [Act.put, List.setIfInBounds_toArray, List.set_cons_zero, List.set_cons_succ, Nat.reduceAdd]
    refine kept_val _ (fun _ => rfl) (fun ρ w hw => by go_simp; first | done | with_reducible rfl) ?_
    simp only [Act.put, List.setIfInBounds_toArray, List.set_cons_zero, List.set_cons_succ, Nat.reduceAdd]
    refine kept_val _ (fun _ => rfl) (fun ρ w hw => by go_simp; first | done | with_reducible rfl) ?_
    simp only [Act.put, List.setIfInBounds_toArray, List.set_cons_zero, List.set_cons_succ, Nat.reduceAdd]
    refine kept_val _ (fun _ => rfl) (fun ρ w hw => by go_simp; first | done | with_reducible rfl) ?_
    simp only [Act.put, List.setIfInBounds_toArray, List.set_cons_zero, List.set_cons_succ, Nat.reduceAdd]
    refine kept_val _ (fun _ => rfl) (fun ρ w hw => by have q0 := (x9.below hw).c0; have q1 := (x9.below hw).c1; go_simp; first | done | with_reducible rfl) ?_
    simp only [Act.put, List.setIfInBounds_toArray, List.set_cons_zero, List.set_cons_succ, Nat.reduceAdd]
    refine kept_val _ (fun _ => rfl) (fun ρ w hw => by have q0 := (x11.below hw).c0; have q1 := (x11.below hw).c1; go_simp; first | done | with_reducible rfl) ?_
    simp only [Act.put, List.setIfInBounds_toArray, List.set_cons_zero, List.set_cons_succ, Nat.reduceAdd]
    refine kept_val _ (fun _ => rfl) (fun ρ w hw => by go_simp; first | done | with_reducible rfl) ?_
    simp only [Act.put, List.setIfInBounds_toArray, List.set_cons_zero, List.set_cons_succ, Nat.reduceAdd]
    refine kept_val _ (fun _ => rfl) (fun ρ w hw => by go_simp; first | done | with_reducible rfl) ?_
    simp only [Act.put, List.setIfInBounds_toArray, List.set_cons_zero, List.set_cons_succ, Nat.reduceAdd]
    refine kept_val _ (fun _ => rfl) (fun ρ w hw => by go_simp; first | done | with_reducible rfl) ?_
    simp only [Act.put, List.setIfInBounds_toArray, List.set_cons_zero, List.set_cons_succ, Nat.reduceAdd]
    refine kept_val _ (fun _ => rfl) (fun ρ w hw => by go_simp; first | done | with_reducible rfl) ?_
    simp only [Act.put, List.setIfInBounds_toArray, List.set_cons_zero, List.set_cons_succ, Nat.reduceAdd]
    refine kept_val _ (fun _ => rfl) (fun ρ w hw => by go_simp; first | done | with_reducible rfl) ?_
    simp only [Act.put, List.setIfInBounds_toArray, List.set_cons_zero, List.set_cons_succ, Nat.reduceAdd]
    refine kept_val _ (fun _ => rfl) (fun ρ w hw => by go_simp; first | done | with_reducible rfl) ?_
    simp only [Act.put, List.setIfInBounds_toArray, List.set_cons_zero, List.set_cons_succ, Nat.reduceAdd]
    refine kept_val _ (fun _ => rfl) (fun ρ w hw => by go_simp; first | done | with_reducible rfl) ?_
    simp only [Act.put, List.setIfInBounds_toArray, List.set_cons_zero, List.set_cons_succ, Nat.reduceAdd]
    refine kept_val _ (fun _ => rfl) (fun ρ w hw => by go_simp; first | done | with_reducible rfl) ?_
    simp only [Act.put, List.setIfInBounds_toArray, List.set_cons_zero, List.set_cons_succ, Nat.reduceAdd]
    refine kept_val _ (fun _ => rfl) (fun ρ w hw => by go_simp; first | done | with_reducible rfl) ?_
    simp only [Act.put, List.setIfInBounds_toArray, List.set_cons_zero, List.set_cons_succ, Nat.reduceAdd]
    refine kept_val _ (fun _ => rfl) (fun ρ w hw => by have q0 := (x2.below hw).c0; have q1 := (x2.below hw).c1; go_simp; first | done | with_reducible rfl) ?_
    simp only [Act.put, List.setIfInBounds_toArray, List.set_cons_zero, List.set_cons_succ, Nat.reduceAdd]
    refine kept_call _ _ _ (fun _ => rfl) (fun ρ w hw => by go_simp; first | done | with_reducible rfl) (fun w hw => c7.of hG (bto hb hw)) ?_
    simp only [Act.put, List.setIfInBounds_toArray, List.set_cons_zero, List.set_cons_succ, Nat.reduceAdd]
    refine kept_val _ (fun _ => rfl) (fun ρ w hw => by go_simp; first | done | with_reducible rfl) ?_
    simp only [Act.put, List.setIfInBounds_toArray, List.set_cons_zero, List.set_cons_succ, Nat.reduceAdd]
    refine kept_val _ (fun _ => rfl) (fun ρ w hw => by have q0 := (x2.below hw).c0; have q1 := (x2.below hw).c1; go_simp; first | done | with_reducible rfl) ?_
    simp only [Act.put, List.setIfInBounds_toArray, List.set_cons_zero, List.set_cons_succ, Nat.reduceAdd]
    refine kept_call _ _ _ (fun _ => rfl) (fun ρ w hw => by go_simp; first | done | with_reducible rfl) (fun w hw => c8.of hG (bto hb hw)) ?_
    simp only [Act.put, List.setIfInBounds_toArray, List.set_cons_zero, List.set_cons_succ, Nat.reduceAdd]
    refine kept_val _ (fun _ => rfl) (fun ρ w hw => by go_simp; first | done | with_reducible rfl) ?_
    simp only [Act.put, List.setIfInBounds_toArray, List.set_cons_zero, List.set_cons_succ, Nat.reduceAdd]
    refine kept_val _ (fun _ => rfl) (fun ρ w hw => by go_simp; first | done | with_reducible rfl) ?_
    simp only [Act.put, List.setIfInBounds_toArray, List.set_cons_zero, List.set_cons_succ, Nat.reduceAdd]
    refine kept_val _ (fun _ => rfl) (fun ρ w hw => by go_simp; first | done | with_reducible rfl) ?_
    simp only [Act.put, List.setIfInBounds_toArray, List.set_cons_zero, List.set_cons_succ, Nat.reduceAdd]
    refine kept_val _ (fun _ => rfl) (fun ρ w hw => by have q0 := (x2.below hw).c0; have q1 := (x2.below hw).c1; go_simp; first | done | with_reducible rfl) ?_
    simp only [Act.put, List.setIfInBounds_toArray, List.set_cons_zero, List.set_cons_succ, Nat.reduceAdd]
    refine kept_val _ (fun _ => rfl) (fun ρ w hw => by have q0 := (x3.below hw).c0; have q1 := (x3.below hw).c1; go_simp; first | done | with_reducible rfl) ?_
    simp only [Act.put, List.setIfInBounds_toArray, List.set_cons_zero, List.set_cons_succ, Nat.reduceAdd]
    refine kept_call _ _ _ (fun _ => rfl) (fun ρ w hw => by go_simp; first | done | with_reducible rfl) (fun w hw => c9.of hG (bto hb hw)) ?_
    simp only [Act.put, List.setIfInBounds_toArray, List.set_cons_zero, List.set_cons_succ, Nat.reduceAdd]
    refine kept_val _ (fun _ => rfl) (fun ρ w hw => by have q0 := (x2.below hw).c0; have q1 := (x2.below hw).c1; go_simp; first | done | with_reducible rfl) ?_
    simp only [Act.put, List.setIfInBounds_toArray, List.set_cons_zero, List.set_cons_succ, Nat.reduceAdd]
    refine kept_val _ (fun _ => rfl) (fun ρ w hw => by have q0 := (x3.below hw).c0; have q1 := (x3.below hw).c1; go_simp; first | done | with_reducible rfl) ?_
    simp only [Act.put, List.setIfInBounds_toArray, List.set_cons_zero, List.set_cons_succ, Nat.reduceAdd]
    refine kept_call _ _ _ (fun _ => rfl) (fun ρ w hw => by go_simp; first | done | with_reducible rfl) (fun w hw => c10.of hG (bto hb hw)) ?_
    simp only [Act.put, List.setIfInBounds_toArray, List.set_cons_zero, List.set_cons_succ, Nat.reduceAdd]
    refine kept_val _ (fun _ => rfl) (fun ρ w hw => by go_simp; first | done | with_reducible rfl) ?_
    simp only [Act.put, List.setIfInBounds_toArray, List.set_cons_zero, List.set_cons_succ, Nat.reduceAdd]
    refine kept_val _ (fun _ => rfl) (fun ρ w hw => by go_simp; first | done | with_reducible rfl) ?_
    simp only [Act.put, List.setIfInBounds_toArray, List.set_cons_zero, List.set_cons_succ, Nat.reduceAdd]
    refine kept_val _ (fun _ => rfl) (fun ρ w hw => by go_simp; first | done | with_reducible rfl) ?_
    simp only [Act.put, List.setIfInBounds_toArray, List.set_cons_zero, List.set_cons_succ, Nat.reduceAdd]
    refine kept_val _ (fun _ => rfl) (fun ρ w hw => by have q0 := (x2.below hw).c0; have q1 := (x2.below hw).c1; go_simp; first | done | with_reducible rfl) ?_
    simp only [Act.put, List.setIfInBounds_toArray, List.set_cons_zero, List.set_cons_succ, Nat.reduceAdd]
    refine kept_call _ _ _ (fun _ => rfl) (fun ρ w hw => by go_simp; first | done | with_reducible rfl) (fun w hw => c11.of hG (bto hb hw)) ?_
    simp only [Act.put, List.setIfInBounds_toArray, List.set_cons_zero, List.set_cons_succ, Nat.reduceAdd]
    refine kept_val _ (fun _ => rfl) (fun ρ w hw => by have q0 := (x2.below hw).c0; have q1 := (x2.below hw).c1; go_simp; first | done | with_reducible rfl) ?_
    simp only [Act.put, List.setIfInBounds_toArray, List.set_cons_zero, List.set_cons_succ, Nat.reduceAdd]
    refine kept_call _ _ _ (fun _ => rfl) (fun ρ w hw => by go_simp; first | done | with_reducible rfl) (fun w hw => c12.of hG (bto hb hw)) ?_
    simp only [Act.put, List.setIfInBounds_toArray, List.set_cons_zero, List.set_cons_succ, Nat.reduceAdd]
    refine kept_val _ (fun _ => rfl) (fun ρ w hw => by go_simp; first | done | with_reducible rfl) ?_
    simp only [Act.put, List.setIfInBounds_toArray, List.set_cons_zero, List.set_cons_succ, Nat.reduceAdd]
    refine kept_val _ (fun _ => rfl) (fun ρ w hw => by go_simp; first | done | with_reducible rfl) ?_
    simp only [Act.put, List.setIfInBounds_toArray, List.set_cons_zero, List.set_cons_succ, Nat.reduceAdd]
    refine kept_val _ (fun _ => rfl) (fun ρ w hw => by go_simp; first | done | with_reducible rfl) ?_
    simp only [Act.put, List.setIfInBounds_toArray, List.set_cons_zero, List.set_cons_succ, Nat.reduceAdd]
    refine kept_call _ _ _ (fun _ => rfl) (fun ρ w hw => by go_simp; first | done | with_reducible rfl) (fun w hw => cW.of hG (bto hb hw)) ?_
    simp only [Act.put, List.setIfInBounds_toArray, List.set_cons_zero, List.set_cons_succ, Nat.reduceAdd]
    refine kept_val _ (fun _ => rfl) (fun ρ w hw => by go_simp; first | done | with_reducible rfl) ?_
    simp only [Act.put, List.setIfInBounds_toArray, List.set_cons_zero, List.set_cons_succ, Nat.reduceAdd]
    refine kept_val _ (fun _ => rfl) (fun ρ w hw => by go_simp; first | done | with_reducible rfl) ?_
    simp only [Act.put, List.setIfInBounds_toArray, List.set_cons_zero, List.set_cons_succ, Nat.reduceAdd]
    refine kept_end (fun ρ w6 hF => ?_)
    replace x2 := x2.below hF.below
    replace x3 := x3.below hF.below
    replace x9 := x9.below hF.below
    replace x11 := x11.below hF.below
    replace hb := bto hb hF.below
    clear hF
    go_wp2
    go_ret
    exact ⟨rfl, hb⟩
end Go.Proofs.YtdbmjbcgcajojaaGreatDoor
