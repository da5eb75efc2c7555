/- FractionFloor. -/
import Derived.Test.YtjhafnnfkaejgaaGreatDoorRet
namespace Go.Proofs.YtjhafnnfkaejgaaGreatDoor
open Go.RowKit Num

set_option maxHeartbeats 2000000 in
set_option maxRecDepth 100000 in
theorem floor_law (l l' a : List UInt8) (w : World) (hG : Glob w) :
    Calls Tryz.prog 7 #[(Value.agg #[Value.string ⟨List.toArray l⟩, Value.string ⟨List.toArray l'⟩]), .string ⟨a.toArray⟩] w fun e w' => e = .returned (.bool true) ∧ Below w.heap.size w w' := by
  have hgr : ∀ w : World, _ := fun w => great_new w [l, l', a, []] 2 2 24 rfl (by decide)
  simp only [List.map_cons, List.map_nil] at hgr
  have HGR := Lib.hid hgr
  clear hgr
  have cW := rAwake
  go_enter Tryz.func7, Tryz.ntmps7
  go_wp2_with fail
  have x2 := FBox.new w (.string ⟨l.toArray⟩) (.string ⟨l'.toArray⟩) 24
  have hb := below_alloc w (.cells #[.string ⟨l.toArray⟩, .string ⟨l'.toArray⟩] 24)
  have hgr := HGR.out (w.alloc (.cells #[.string ⟨l.toArray⟩, .string ⟨l'.toArray⟩] 24))
  rw [World.size_alloc] at hgr
  (with_reducible refine hgr.mono ?_)
  clear hgr
  rintro e w1 ⟨hres, hb1⟩
  rw [← World.size_alloc w (.cells #[.string ⟨l.toArray⟩, .string ⟨l'.toArray⟩] 24)] at hb1
  replace x2 := x2.below hb1
  replace hb := bto hb hb1
  clear hb1
  rcases hres with ⟨rfl, -⟩ | ⟨rfl, hlen⟩
  · go_wp2_with fail
    ((with_reducible refine (cW.of hG hb).mono ?_); rintro e w2 ⟨rfl, hb2⟩)
    go_wp2
    go_ret
    exact ⟨rfl, bto hb hb2⟩
  · have h1 : l.length ≤ 60 := hlen l (by simp)
    have h2 : l'.length ≤ 60 := hlen l' (by simp)
    have h3 : a.length ≤ 60 := hlen a (by simp)
    clear hlen HGR
    have iF := isq_raw h1 h2 (by decide)
    have bq : Bd 60 (fv l l') := bd_fv h1 h2 (by decide)
    obtain ⟨q, hq⟩ : ∃ q, q = fv l l' := ⟨_, rfl⟩
    rw [← hq] at iF bq
    have bz : q.floor.natAbs < 10 ^ 60 := by
      rw [hq]; unfold fv; rw [← floor_divZ _ _ (den1_ne _)]
      refine Nat.lt_of_le_of_lt ?_ (val_lt_of h1)
      unfold divZ; split
      · exact Int.natAbs_ediv_le_natAbs _ _
      · refine Nat.le_trans (Int.natAbs_ediv_le_natAbs _ _) ?_
        rw [Int.natAbs_neg]; exact Nat.le_refl _
    obtain ⟨z, hz⟩ : ∃ z, z = q.floor := ⟨_, rfl⟩
    rw [← hz] at bz
    have bl := bd_int bz (by decide)
    have b1 := bd_int (a := 1) (k := 1) (by decide) (by decide)
    have ba := bd_int (a := val a) (val_lt_of h3) (by decide)
    have zl : (canon z).length ≤ 61 := canon_len_le _ _ bz
    have cF := rFloor iF hz.symm
    have cO := rOf (Nat.le_trans zl (by decide)) (val_canon z)
    have cI := rOf (l := [49]) (by decide) (show val [49] = 1 by decide)
    have cA := rAdd (isq_fr bl (by decide)) (isq_fr b1 (by decide)) rfl
    have cOa := rOf (Nat.le_trans h3 (by decide)) (rfl : val a = val a)
    have cAd := rAdd iF (isq_fr ba (by decide)) rfl
    have cFl := rFloor (isq_fr (bd_add bq ba) (by decide)) (z := z + val a) (by rw [Rat.floor_add_intCast, hz])
    have cCk := riCheck (l := canon z) (c := 0) (Nat.le_trans zl (by decide)) (by rw [if_pos (by rw [val_canon])])
    obtain ⟨c1, hc1⟩ : ∃ c1, cmpQ (z : Rat) q = c1 := ⟨_, rfl⟩
    obtain ⟨c2, hc2⟩ : ∃ c2, cmpQ q ((z : Rat) + ((1 : Int) : Rat)) = c2 := ⟨_, rfl⟩
    have cC1 := rCompare (isq_fr bl (by decide)) iF hc1
    have cC2 := rCompare iF (isq_fr (bd_add bl b1) (by decide)) hc2
    have k1 : decide (c1 ≤ 0) = true := decide_eq_true (by rw [← hc1, cmpQ_le, hz]; exact Rat.floor_le q)
    have k2 : decide (c2 < 0) = true := decide_eq_true (by rw [← hc2, cmpQ_neg, hz]; have := Rat.lt_floor_add_one q; rwa [Rat.intCast_add] at this)
    have cIa := riAdd (l := canon z) (l' := a) (Nat.le_trans zl (by decide)) (Nat.le_trans h3 (by decide)) (z := z + val a) (by rw [val_canon])
    generalize canon (z + val a) = V at *
    generalize fN (q + (val a : Rat)) = M0 at *
    generalize fD (q + (val a : Rat)) = M1 at *
    generalize fN ((z : Rat) + ((1 : Int) : Rat)) = T0 at *
    generalize fD ((z : Rat) + ((1 : Int) : Rat)) = T1 at *
    generalize fN (z : Rat) = L0 at *
    generalize fD (z : Rat) = L1 at *
    generalize fN ((1 : Int) : Rat) = E0 at *
    generalize fD ((1 : Int) : Rat) = E1 at *
    generalize fN (val a : Rat) = A0 at *
    generalize fD (val a : Rat) = A1 at *
    generalize canon z = Z at *
    clear hc1 hc2 hz hq bz bq bl b1 ba zl h1 h2 h3 iF
    have q0 := x2.c0
    have q1 := x2.c1
    go_wp2_with fail
    ((with_reducible refine (cF.of hG hb).mono ?_); rintro e w2 ⟨rfl, hb2⟩)
    clear q0 q1
    replace x2 := x2.below hb2
    replace hb := bto hb hb2
    clear hb2
    go_wp2_with fail
    ((with_reducible refine (cO.of hG hb).mono ?_); rintro e w3 ⟨rfl, hb3⟩)
    replace x2 := (x2.below hb3).below (below_alloc w3 (.cells #[.string ⟨L0.toArray⟩, .string ⟨L1.toArray⟩] 24))
    have x6 := FBox.new w3 (.string ⟨L0.toArray⟩) (.string ⟨L1.toArray⟩) 24
    replace hb := bto (bto hb hb3) (below_alloc w3 (.cells #[.string ⟨L0.toArray⟩, .string ⟨L1.toArray⟩] 24))
    clear hb3
    go_wp2_with fail
    refine wp_region_kept (by kernel_rfl) (by kernel_rfl) ?_
    refine kept_val _ (fun _ => rfl) (fun ρ w hw => by have q0 := (x6.below hw).c0; have q1 := (x6.below hw).c1; go_simp; first | done | with_reducible rfl) ?_
    simp only [Act.put, List.setIfInBounds_toArray, List.set_cons_zero, List.set_cons_succ, Nat.reduceAdd]
    refine kept_call _ _ _ (fun _ => rfl) (fun ρ w hw => by go_simp; first | done | with_reducible rfl) (fun w hw => cI.of hG (bto hb hw)) ?_
    simp only [Act.put, List.setIfInBounds_toArray, List.set_cons_zero, List.set_cons_succ, Nat.reduceAdd]
    refine kept_call _ _ _ (fun _ => rfl) (fun ρ w hw => by go_simp; first | done | with_reducible rfl) (fun w hw => cA.of hG (bto hb hw)) ?_
    simp only [Act.put, List.setIfInBounds_toArray, List.set_cons_zero, List.set_cons_succ, Nat.reduceAdd]
    refine kept_box (fun b => .pointer (some ⟨b, 0, none⟩)) _ rfl (fun _ => rfl) (fun ρ w hw => by go_simp; first | done | with_reducible rfl) ?_
    simp only [Act.put, List.setIfInBounds_toArray, List.set_cons_zero, List.set_cons_succ, Nat.reduceAdd]
    refine kept_put2 3 _ 7 _ _ _ _ _ rfl rfl rfl (by decide) (fun _ => rfl) (fun ρ w hw q0 q1 q2 q3 => by go_simp; first | done | with_reducible rfl) ?_
    simp only [Act.put, Nat.reduceAdd]
    refine kept_end (fun ρ w4 hF => ?_)
    have x7 := FBox.ofB (hF.box 3 _ _ rfl).2
    replace x2 := x2.below hF.below
    replace x6 := x6.below hF.below
    replace hb := bto hb hF.below
    generalize ρ 3 = b7 at *
    clear hF
    go_wp2_with fail
    refine wp_region_kept (by kernel_rfl) (by kernel_rfl) ?_
    refine kept_val _ (fun _ => rfl) (fun ρ w hw => by have q0 := (x2.below hw).c0; have q1 := (x2.below hw).c1; go_simp; first | done | with_reducible rfl) ?_
    simp only [Act.put, List.setIfInBounds_toArray, List.set_cons_zero, List.set_cons_succ, Nat.reduceAdd]
    refine kept_val _ (fun _ => rfl) (fun ρ w hw => by go_simp; first | done | with_reducible rfl) ?_
    simp only [Act.put, List.setIfInBounds_toArray, List.set_cons_zero, List.set_cons_succ, Nat.reduceAdd]
    refine kept_call _ _ _ (fun _ => rfl) (fun ρ w hw => by go_simp; first | done | with_reducible rfl) (fun w hw => cOa.of hG (bto hb hw)) ?_
    simp only [Act.put, List.setIfInBounds_toArray, List.set_cons_zero, List.set_cons_succ, Nat.reduceAdd]
    refine kept_call _ _ _ (fun _ => rfl) (fun ρ w hw => by go_simp; first | done | with_reducible rfl) (fun w hw => cAd.of hG (bto hb hw)) ?_
    simp only [Act.put, List.setIfInBounds_toArray, List.set_cons_zero, List.set_cons_succ, Nat.reduceAdd]
    refine kept_call _ _ _ (fun _ => rfl) (fun ρ w hw => by go_simp; first | done | with_reducible rfl) (fun w hw => cFl.of hG (bto hb hw)) ?_
    simp only [Act.put, List.setIfInBounds_toArray, List.set_cons_zero, List.set_cons_succ, Nat.reduceAdd]
    refine kept_val _ (fun _ => rfl) (fun ρ w hw => by go_simp; first | done | with_reducible rfl) ?_
    simp only [Act.put, List.setIfInBounds_toArray, List.set_cons_zero, List.set_cons_succ, Nat.reduceAdd]
    refine kept_end (fun ρ w5 hF => ?_)
    replace x2 := x2.below hF.below
    replace x6 := x6.below hF.below
    replace x7 := x7.below hF.below
    replace hb := bto hb hF.below
    clear hF
    go_wp2_with fail
    ((with_reducible refine (cCk.of hG hb).mono ?_); rintro e w6 ⟨rfl, hb6⟩)
    replace x2 := x2.below hb6
    replace x6 := x6.below hb6
    replace x7 := x7.below hb6
    replace hb := bto hb hb6
    clear hb6
    have q0 := x2.c0
    have q1 := x2.c1
    have q2 := x6.c0
    have q3 := x6.c1
    go_wp2_with fail
    ((with_reducible refine (cC1.of hG hb).mono ?_); rintro e w7 ⟨rfl, hb7⟩)
    clear q0 q1 q2 q3
    replace x2 := x2.below hb7
    replace x7 := x7.below hb7
    replace hb := bto hb hb7
    clear hb7
    have q0 := x2.c0
    have q1 := x2.c1
    have q2 := x7.c0
    have q3 := x7.c1
    go_wp2_with fail
    ((with_reducible refine (cC2.of hG hb).mono ?_); rintro e w8 ⟨rfl, hb8⟩)
    clear q0 q1 q2 q3
    replace hb := bto hb hb8
    go_wp2_with fail
    ((with_reducible refine (cIa.of hG hb).mono ?_); rintro e w9 ⟨rfl, hb9⟩)
    replace hb := bto hb hb9
    go_wp2_with fail
    ((with_reducible refine (cW.of hG hb).mono ?_); rintro e w10 ⟨rfl, hb10⟩)
    replace hb := bto hb hb10
    go_wp2
    go_ret
    exact ⟨rfl, hb⟩
end Go.Proofs.YtjhafnnfkaejgaaGreatDoor
