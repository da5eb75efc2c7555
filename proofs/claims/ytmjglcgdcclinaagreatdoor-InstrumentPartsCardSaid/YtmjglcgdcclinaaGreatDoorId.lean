/- Package instrument and trancheref10: signs and numbers. -/
import Derived.Test.YtmjglcgdcclinaaGreatDoorIc
import Derived.Test.YtmjglcgdcclinaaGreatDoorCd
namespace Go.Proofs.YtmjglcgdcclinaaGreatDoor
open Go.RowKit Num
section
variable {l l' : List UInt8}
theorem iSign (hl : l.length ≤ 1000000) {c : Int} (e : cmpZ (val l) 0 = c) : Ret 217 #[(Value.agg #[Value.string ⟨List.toArray l⟩, Value.string ⟨List.toArray l'⟩])] (.int .i64 c) := fun w hG => by
  have c1 := riCompare (l := l) (l' := []) (Nat.le_trans hl (by decide)) (by decide) (c := c) (by rw [val_nil]; exact e)
  have H1 := Lib.hid c1
  have x1 := FBox.new w (.string ⟨l.toArray⟩) (.string ⟨l'.toArray⟩) 32
  have hb := below_alloc w (.cells #[.string ⟨l.toArray⟩, .string ⟨l'.toArray⟩] 32)
  have q0 := x1.c0
  have q1 := x1.c1
  clear c1 e
  go_enter Tryz.func217, Tryz.ntmps217
  go_wp2_with fail
  ((with_reducible refine (H1.out.of hG hb).mono ?_); rintro e w1 ⟨rfl, hb2⟩)
  have hb := bto hb hb2
  go_wp2
  go_ret
  exact ⟨rfl, hb⟩
theorem jSign (hl : l.length ≤ 900) (hl' : l'.length ≤ 900) {c : Int} (e : cmpQ (fv l l') 0 = c) : Ret 44 #[(Value.agg #[Value.string ⟨List.toArray l⟩, Value.string ⟨List.toArray l'⟩])] (.int .i64 c) := fun w hG => by
  have c1 := sCompare (l := l) (l' := l') (k := []) (k' := []) hl hl' (by decide) (by decide) (c := c) (by rw [show fv [] [] = 0 by decide +kernel]; exact e)
  have H1 := Lib.hid c1
  have x1 := FBox.new w (.string ⟨l.toArray⟩) (.string ⟨l'.toArray⟩) 32
  have hb := below_alloc w (.cells #[.string ⟨l.toArray⟩, .string ⟨l'.toArray⟩] 32)
  have q0 := x1.c0
  have q1 := x1.c1
  clear c1 e
  go_enter Tryz.func44, Tryz.ntmps44
  go_wp2_with fail
  ((with_reducible refine (H1.out.of hG hb).mono ?_); rintro e w1 ⟨rfl, hb2⟩)
  have hb := bto hb hb2
  go_wp2
  go_ret
  exact ⟨rfl, hb⟩
/-- canonical -/
def isCan (l l' : List UInt8) : Prop := l = fN (fv l l') ∧ l' = fD (fv l l')
instance (l l' : List UInt8) : Decidable (isCan l l') := by unfold isCan; infer_instance
def numE (l l' : List UInt8) : Int := if isCan l l' then (if 40 < digN l ∨ 40 < digN l' then 4 else 0) else 1
theorem sign_can (h : isCan l l') : cmpQ (fv l l') 0 = cmpZ (val l) 0 := by
  have h1 : val l = (fv l l').num := (congrArg val h.1).trans (val_fN _)
  have h2 : fv l l' = Rat.divInt (val l) ((fv l l').den : Int) := by rw [h1, Rat.num_divInt_den]
  have h3 := cmp_cross (a := val l) (b := ((fv l l').den : Int)) (c := 0) (e := 1) (by have := (fv l l').den_nz; omega) (by decide)
  rw [← h2, Rat.zero_divInt] at h3
  rw [← h3, Int.mul_one, Int.zero_mul]
theorem zero_can (h : isCan l l') : (l = [] ∧ l' = []) ↔ cmpZ (val l) 0 = 0 := by
  rw [← sign_can h, cmpQ_eq]
  constructor
  · rintro ⟨rfl, rfl⟩; decide +kernel
  · intro h0
    obtain ⟨h1, h2⟩ := h
    rw [h0] at h1 h2
    exact ⟨h1, h2⟩
set_option maxHeartbeats 1000000 in
set_option maxRecDepth 100000 in
theorem iNumber (hl : l.length ≤ 100000) (hl' : l'.length ≤ 100000) : Ret 138 #[(Value.agg #[Value.string ⟨List.toArray l⟩, Value.string ⟨List.toArray l'⟩])] (.int .i64 (numE l l')) := fun w hG => by
  have c1 := rCheck (l := l) (l' := l') ⟨hl, hl', rfl⟩ rfl
  have c2 := iDigits (l := l) (by omega)
  have c3 := iDigits (l := l') (by omega)
  have b1 := digN_le l
  have b2 := digN_le l'
  have x1 := FBox.new w (.string ⟨l.toArray⟩) (.string ⟨l'.toArray⟩) 32
  have hb := below_alloc w (.cells #[.string ⟨l.toArray⟩, .string ⟨l'.toArray⟩] 32)
  by_cases h : isCan l l'
  · rw [if_pos (show l = fN (fv l l') ∧ l' = fD (fv l l') from h)] at c1
    have HN : Hid (numE l l' = if 40 < digN l ∨ 40 < digN l' then 4 else 0) := if_pos h
    clear h
    generalize digN l = a at *
    generalize digN l' = b at *
    have H1 := Lib.hid c1
    clear c1
    by_cases hd : 40 < max a b
    · have e1 : decide (40 < max a b) = true := decide_eq_true hd
      have HV : Hid (numE l l' = 4) := by show _ = _; rw [HN.out, if_pos (by omega)]
      go_enter Tryz.func138, Tryz.ntmps138
      have q0 := x1.c0
      have q1 := x1.c1
      go_wp2_with fail
      ((with_reducible refine (H1.out.of hG hb).mono ?_); rintro e w1 ⟨rfl, hb2⟩)
      replace hb := bto hb hb2
      replace x1 := x1.below hb2
      clear hb2 q0 q1
      go_wp2_with fail
      refine wp_region_kept (by kernel_rfl) (by kernel_rfl) ?_
      refine kept_val _ (fun _ => rfl) (fun ρ w hw => by go_simp; first | done | with_reducible rfl) ?_
      simp only [Act.put, List.setIfInBounds_toArray, List.set_cons_zero, List.set_cons_succ, Nat.reduceAdd]
      refine kept_val _ (fun _ => rfl) (fun ρ w hw => by have q0 := (x1.below hw).c0; have q1 := (x1.below hw).c1; go_simp; first | done | with_reducible rfl) ?_
      simp only [Act.put, List.setIfInBounds_toArray, List.set_cons_zero, List.set_cons_succ, Nat.reduceAdd]
      refine kept_call _ _ _ (fun _ => rfl) (fun ρ w hw => by go_simp; first | done | with_reducible rfl) (fun w hw => c2.of hG (bto hb hw)) ?_
      simp only [Act.put, List.setIfInBounds_toArray, List.set_cons_zero, List.set_cons_succ, Nat.reduceAdd]
      refine kept_val _ (fun _ => rfl) (fun ρ w hw => by go_simp; first | done | with_reducible rfl) ?_
      simp only [Act.put, List.setIfInBounds_toArray, List.set_cons_zero, List.set_cons_succ, Nat.reduceAdd]
      refine kept_val _ (fun _ => rfl) (fun ρ w hw => by have q0 := (x1.below hw).c0; have q1 := (x1.below hw).c1; go_simp; first | done | with_reducible rfl) ?_
      simp only [Act.put, List.setIfInBounds_toArray, List.set_cons_zero, List.set_cons_succ, Nat.reduceAdd]
      refine kept_call _ _ _ (fun _ => rfl) (fun ρ w hw => by go_simp; first | done | with_reducible rfl) (fun w hw => c3.of hG (bto hb hw)) ?_
      simp only [Act.put, List.setIfInBounds_toArray, List.set_cons_zero, List.set_cons_succ, Nat.reduceAdd]
      refine kept_val _ (fun _ => rfl) (fun ρ w hw => by go_simp; first | done | with_reducible rfl) ?_
      simp only [Act.put, List.setIfInBounds_toArray, List.set_cons_zero, List.set_cons_succ, Nat.reduceAdd]
      refine kept_val _ (fun _ => rfl) (fun ρ w hw => by go_simp; first | done | with_reducible rfl) ?_
      simp only [Act.put, List.setIfInBounds_toArray, List.set_cons_zero, List.set_cons_succ, Nat.reduceAdd]
      refine kept_val _ (fun _ => rfl) (fun ρ w hw => by go_simp; first | done | with_reducible rfl) ?_
      simp only [Act.put, List.setIfInBounds_toArray, List.set_cons_zero, List.set_cons_succ, Nat.reduceAdd]
      refine kept_end (fun ρ w2 hF => ?_)
      replace x1 := x1.below hF.below
      replace hb := bto hb hF.below
      clear hF
      go_wp2
      go_ret
      exact ⟨reti HV.out.symm, hb⟩
    · have e1 : decide (40 < max a b) = false := decide_eq_false hd
      have HV : Hid (numE l l' = 0) := by show _ = _; rw [HN.out, if_neg (by omega)]
      go_enter Tryz.func138, Tryz.ntmps138
      have q0 := x1.c0
      have q1 := x1.c1
      go_wp2_with fail
      ((with_reducible refine (H1.out.of hG hb).mono ?_); rintro e w1 ⟨rfl, hb2⟩)
      replace hb := bto hb hb2
      replace x1 := x1.below hb2
      clear hb2 q0 q1
      go_wp2_with fail
      refine wp_region_kept (by kernel_rfl) (by kernel_rfl) ?_
      refine kept_val _ (fun _ => rfl) (fun ρ w hw => by go_simp; first | done | with_reducible rfl) ?_
      simp only [Act.put, List.setIfInBounds_toArray, List.set_cons_zero, List.set_cons_succ, Nat.reduceAdd]
      refine kept_val _ (fun _ => rfl) (fun ρ w hw => by have q0 := (x1.below hw).c0; have q1 := (x1.below hw).c1; go_simp; first | done | with_reducible rfl) ?_
      simp only [Act.put, List.setIfInBounds_toArray, List.set_cons_zero, List.set_cons_succ, Nat.reduceAdd]
      refine kept_call _ _ _ (fun _ => rfl) (fun ρ w hw => by go_simp; first | done | with_reducible rfl) (fun w hw => c2.of hG (bto hb hw)) ?_
      simp only [Act.put, List.setIfInBounds_toArray, List.set_cons_zero, List.set_cons_succ, Nat.reduceAdd]
      refine kept_val _ (fun _ => rfl) (fun ρ w hw => by go_simp; first | done | with_reducible rfl) ?_
      simp only [Act.put, List.setIfInBounds_toArray, List.set_cons_zero, List.set_cons_succ, Nat.reduceAdd]
      refine kept_val _ (fun _ => rfl) (fun ρ w hw => by have q0 := (x1.below hw).c0; have q1 := (x1.below hw).c1; go_simp; first | done | with_reducible rfl) ?_
      simp only [Act.put, List.setIfInBounds_toArray, List.set_cons_zero, List.set_cons_succ, Nat.reduceAdd]
      refine kept_call _ _ _ (fun _ => rfl) (fun ρ w hw => by go_simp; first | done | with_reducible rfl) (fun w hw => c3.of hG (bto hb hw)) ?_
      simp only [Act.put, List.setIfInBounds_toArray, List.set_cons_zero, List.set_cons_succ, Nat.reduceAdd]
      refine kept_val _ (fun _ => rfl) (fun ρ w hw => by go_simp; first | done | with_reducible rfl) ?_
      simp only [Act.put, List.setIfInBounds_toArray, List.set_cons_zero, List.set_cons_succ, Nat.reduceAdd]
      refine kept_val _ (fun _ => rfl) (fun ρ w hw => by go_simp; first | done | with_reducible rfl) ?_
      simp only [Act.put, List.setIfInBounds_toArray, List.set_cons_zero, List.set_cons_succ, Nat.reduceAdd]
      refine kept_val _ (fun _ => rfl) (fun ρ w hw => by go_simp; first | done | with_reducible rfl) ?_
      simp only [Act.put, List.setIfInBounds_toArray, List.set_cons_zero, List.set_cons_succ, Nat.reduceAdd]
      refine kept_end (fun ρ w2 hF => ?_)
      replace x1 := x1.below hF.below
      replace hb := bto hb hF.below
      clear hF
      go_wp2
      go_ret
      exact ⟨reti HV.out.symm, hb⟩
  · have e0 : ¬ (l = fN (fv l l') ∧ l' = fD (fv l l')) := h
    rw [if_neg e0] at c1
    have HV : Hid (numE l l' = 1) := if_neg h
    have H1 := Lib.hid c1
    clear c1 c2 c3 e0 h b1 b2
    go_enter Tryz.func138, Tryz.ntmps138
    have q0 := x1.c0
    have q1 := x1.c1
    go_wp2_with fail
    ((with_reducible refine (H1.out.of hG hb).mono ?_); rintro e w1 ⟨rfl, hb2⟩)
    replace hb := bto hb hb2
    go_wp2
    go_ret
    exact ⟨reti HV.out.symm, hb⟩
end
end Go.Proofs.YtmjglcgdcclinaaGreatDoor
