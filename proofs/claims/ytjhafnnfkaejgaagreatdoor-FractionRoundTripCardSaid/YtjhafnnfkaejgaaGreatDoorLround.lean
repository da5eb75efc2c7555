/- FractionRoundTrip. -/
import Derived.Test.YtjhafnnfkaejgaaGreatDoorParse
namespace Go.Proofs.YtjhafnnfkaejgaaGreatDoor
open Go.RowKit Num

theorem parseF_bd {s : List UInt8} {q : Rat} (h : parseF s = some q) (K : Nat) (hK : s.length + 3 ≤ K) : Bd K q := by
  unfold parseF at h
  split at h
  · next hc => injection h with h; rw [← h]; exact bd_parse s K hK hc.2.2.1
  · cases h

set_option maxHeartbeats 4000000 in
set_option maxRecDepth 100000 in
theorem round_law (l l' : List UInt8) (s : List UInt8) (w : World) (hG : Glob w) :
    Calls Tryz.prog 11 #[(Value.agg #[Value.string ⟨List.toArray l⟩, Value.string ⟨List.toArray l'⟩]), .string ⟨s.toArray⟩] w fun e w' => e = .returned (.bool true) ∧ Below w.heap.size w w' := by
  have cW := rAwake
  go_enter Tryz.func11, Tryz.ntmps11
  go_wp2_with fail
  ((with_reducible refine (great_any _ 1 1 (fun i => [l, l'].getD i []) _ (by decide) ?_).mono ?_))
  · intro i hi
    have hi : i = 0 ∨ i = 1 := by omega
    rcases hi with rfl | rfl <;> simp [go_sem]
  rintro e w1 ⟨hres, hb1⟩
  have x2 : FBox w1 (w.heap.size) (.string ⟨l.toArray⟩) (.string ⟨l'.toArray⟩) := FBox.below ⟨by simp [go_sem], by simp [go_sem], by simp [go_sem], by simp [go_sem], by first | (simp; done) | (simp; omega)⟩ hb1
  have hb : Below w.heap.size w w1 := bto (bto (below_alloc _ _) (below_alloc _ _)) hb1
  clear hb1
  rcases hres with ⟨rfl, -⟩ | ⟨rfl, hlen⟩
  · go_wp2_with fail
    ((with_reducible refine (cW.of hG hb).mono ?_); rintro e w2 ⟨rfl, hb2⟩)
    go_wp2
    go_ret
    exact ⟨rfl, bto hb hb2⟩
  · have h0 : l.length ≤ 60 := hlen 0 (by decide)
    have h1 : l'.length ≤ 60 := hlen 1 (by decide)
    clear hlen
    by_cases hs : 130 < s.length
    · have k0 : decide (130 < s.length) = true := decide_eq_true hs
      go_wp2_with fail
      ((with_reducible refine (cW.of hG hb).mono ?_); rintro e w2 ⟨rfl, hb2⟩)
      go_wp2
      go_ret
      exact ⟨rfl, bto hb hb2⟩
    have k0 : decide (130 < s.length) = false := decide_eq_false hs
    have k1 : s.length ≤ 130 := Nat.not_lt.1 hs
    have iF := isq_raw h0 h1 (by decide)
    have bF : Bd 60 (fv l l') := bd_fv h0 h1 (by decide)
    generalize fv l l' = q at iF bF
    have hT := printQ_len bF
    have c1 := rPrint iF
    have c2 := rParse_some (s := printQ q) (Nat.le_trans hT (by decide)) (parseF_printQ (Nat.le_trans hT (by decide)))
    have c3 := rAdd iF isq_zero (Rat.add_zero q)
    have hN : parseF s = none → Ret 43 _ _ := fun h => rParse_none (Nat.le_trans k1 (by decide)) h
    have hS : ∀ r, parseF s = some r → Ret 43 #[.string ⟨s.toArray⟩] (.tuple #[(Value.agg #[Value.string ⟨List.toArray (fN r)⟩, Value.string ⟨List.toArray (fD r)⟩]), .int .i64 0]) ∧ Ret 45 #[(Value.agg #[Value.string ⟨List.toArray (fN r)⟩, Value.string ⟨List.toArray (fD r)⟩])] (.string ⟨s.toArray⟩) ∧ Ret 18 #[(Value.agg #[Value.string ⟨List.toArray (fN r)⟩, Value.string ⟨List.toArray (fD r)⟩])] (.int .i64 0) := fun r h => by
      have ir := isq_fr (parseF_bd h 140 (by omega)) (by decide)
      have cp := rPrint ir
      rw [parseF_print h] at cp
      exact ⟨rParse_some (Nat.le_trans k1 (by decide)) h, cp, rCheck ir (by rw [if_pos ⟨rfl, rfl⟩])⟩
    have HN := Lib.hid hN
    have HS := Lib.hid hS
    generalize printQ q = T at *
    generalize fN q = F0 at *
    generalize fD q = F1 at *
    clear hN hS iF bF hT h0 h1 hs
    have qx2a := x2.c0
    have qx2b := x2.c1
    go_wp2_with fail
    ((with_reducible refine (c1.of hG hb).mono ?_); rintro e w2 ⟨rfl, hb2⟩)
    clear qx2a qx2b
    replace x2 := x2.below hb2
    replace hb := bto hb hb2
    clear hb2
    go_wp2_with fail
    ((with_reducible refine (c2.of hG hb).mono ?_); rintro e w3 ⟨rfl, hb3⟩)
    replace x2 := x2.below hb3
    replace hb := bto hb hb3
    clear hb3
    replace x2 := x2.below (below_alloc w3 (.cells #[.string ⟨F0.toArray⟩, .string ⟨F1.toArray⟩] 24))
    have x5 := FBox.new w3 (.string ⟨F0.toArray⟩) (.string ⟨F1.toArray⟩) 24
    replace hb := bto hb (below_alloc w3 (.cells #[.string ⟨F0.toArray⟩, .string ⟨F1.toArray⟩] 24))
    cases hp : parseF s with
    | none =>
      have c4 := HN.out hp
      clear HN HS hp
      go_wp2_with fail
      ((with_reducible refine (c4.of hG hb).mono ?_); rintro e w4 ⟨rfl, hb4⟩)
      replace x2 := x2.below hb4
      replace x5 := x5.below hb4
      replace hb := bto hb hb4
      clear hb4
      replace x2 := x2.below (below_alloc w4 (.cells #[.string ⟨#[]⟩, .string ⟨#[]⟩] 24))
      replace x5 := x5.below (below_alloc w4 (.cells #[.string ⟨#[]⟩, .string ⟨#[]⟩] 24))
      have x7 := FBox.new w4 (.string ⟨#[]⟩) (.string ⟨#[]⟩) 24
      replace hb := bto hb (below_alloc w4 (.cells #[.string ⟨#[]⟩, .string ⟨#[]⟩] 24))
      go_wp2_with fail
      refine wp_region_kept (by kernel_rfl) (by kernel_rfl) ?_
      refine kept_val _ (fun _ => rfl) (fun ρ w hw => by go_simp; first | done | with_reducible rfl) ?_
      simp only [Act.put, List.setIfInBounds_toArray, List.set_cons_zero, List.set_cons_succ, Nat.reduceAdd]
      refine kept_val _ (fun _ => rfl) (fun ρ w hw => by go_simp; first | done | with_reducible rfl) ?_
      simp only [Act.put, List.setIfInBounds_toArray, List.set_cons_zero, List.set_cons_succ, Nat.reduceAdd]
      refine kept_val _ (fun _ => rfl) (fun ρ w hw => by go_simp; first | done | with_reducible rfl) ?_
      simp only [Act.put, List.setIfInBounds_toArray, List.set_cons_zero, List.set_cons_succ, Nat.reduceAdd]
      refine kept_val _ (fun _ => rfl) (fun ρ w hw => by have q0 := (x5.below hw).c0; have q1 := (x5.below hw).c1; go_simp; first | done | with_reducible rfl) ?_
      simp only [Act.put, List.setIfInBounds_toArray, List.set_cons_zero, List.set_cons_succ, Nat.reduceAdd]
      refine kept_val _ (fun _ => rfl) (fun ρ w hw => by have q0 := (x2.below hw).c0; have q1 := (x2.below hw).c1; go_simp; first | done | with_reducible rfl) ?_
      simp only [Act.put, List.setIfInBounds_toArray, List.set_cons_zero, List.set_cons_succ, Nat.reduceAdd]
      refine kept_val _ (fun _ => rfl) (fun ρ w hw => by go_simp; first | done | with_reducible rfl) ?_
      simp only [Act.put, List.setIfInBounds_toArray, List.set_cons_zero, List.set_cons_succ, Nat.reduceAdd]
      refine kept_call _ _ _ (fun _ => rfl) (fun ρ w hw => by go_simp; first | done | with_reducible rfl) (fun w hw => c3.of hG (bto hb hw)) ?_
      simp only [Act.put, List.setIfInBounds_toArray, List.set_cons_zero, List.set_cons_succ, Nat.reduceAdd]
      refine kept_val _ (fun _ => rfl) (fun ρ w hw => by go_simp; first | done | with_reducible rfl) ?_
      simp only [Act.put, List.setIfInBounds_toArray, List.set_cons_zero, List.set_cons_succ, Nat.reduceAdd]
      refine kept_val _ (fun _ => rfl) (fun ρ w hw => by go_simp; first | done | with_reducible rfl) ?_
      simp only [Act.put, List.setIfInBounds_toArray, List.set_cons_zero, List.set_cons_succ, Nat.reduceAdd]
      refine kept_end (fun ρ w5 hF => ?_)
      replace x2 := x2.below hF.below
      replace x5 := x5.below hF.below
      replace x7 := x7.below hF.below
      replace hb := bto hb hF.below
      clear hF
      have qx7a := x7.c0
      have qx7b := x7.c1
      go_wp2_with fail
      ((with_reducible refine (cW.of hG hb).mono ?_); rintro e w6 ⟨rfl, hb6⟩)
      replace x2 := x2.below hb6
      replace x5 := x5.below hb6
      replace x7 := x7.below hb6
      replace hb := bto hb hb6
      clear hb6
      go_wp2
      go_ret
      exact ⟨rfl, hb⟩
    | some r =>
      obtain ⟨c4, c5, c6⟩ := HS.out r hp
      clear HN HS hp
      generalize fN r = R0 at *
      generalize fD r = R1 at *
      go_wp2_with fail
      ((with_reducible refine (c4.of hG hb).mono ?_); rintro e w4 ⟨rfl, hb4⟩)
      replace x2 := x2.below hb4
      replace x5 := x5.below hb4
      replace hb := bto hb hb4
      clear hb4
      replace x2 := x2.below (below_alloc w4 (.cells #[.string ⟨R0.toArray⟩, .string ⟨R1.toArray⟩] 24))
      replace x5 := x5.below (below_alloc w4 (.cells #[.string ⟨R0.toArray⟩, .string ⟨R1.toArray⟩] 24))
      have x7 := FBox.new w4 (.string ⟨R0.toArray⟩) (.string ⟨R1.toArray⟩) 24
      replace hb := bto hb (below_alloc w4 (.cells #[.string ⟨R0.toArray⟩, .string ⟨R1.toArray⟩] 24))
      go_wp2_with fail
      refine wp_region_kept (by kernel_rfl) (by kernel_rfl) ?_
      refine kept_val _ (fun _ => rfl) (fun ρ w hw => by go_simp; first | done | with_reducible rfl) ?_
      simp only [Act.put, List.setIfInBounds_toArray, List.set_cons_zero, List.set_cons_succ, Nat.reduceAdd]
      refine kept_val _ (fun _ => rfl) (fun ρ w hw => by go_simp; first | done | with_reducible rfl) ?_
      simp only [Act.put, List.setIfInBounds_toArray, List.set_cons_zero, List.set_cons_succ, Nat.reduceAdd]
      refine kept_val _ (fun _ => rfl) (fun ρ w hw => by go_simp; first | done | with_reducible rfl) ?_
      simp only [Act.put, List.setIfInBounds_toArray, List.set_cons_zero, List.set_cons_succ, Nat.reduceAdd]
      refine kept_val _ (fun _ => rfl) (fun ρ w hw => by have q0 := (x5.below hw).c0; have q1 := (x5.below hw).c1; go_simp; first | done | with_reducible rfl) ?_
      simp only [Act.put, List.setIfInBounds_toArray, List.set_cons_zero, List.set_cons_succ, Nat.reduceAdd]
      refine kept_val _ (fun _ => rfl) (fun ρ w hw => by have q0 := (x2.below hw).c0; have q1 := (x2.below hw).c1; go_simp; first | done | with_reducible rfl) ?_
      simp only [Act.put, List.setIfInBounds_toArray, List.set_cons_zero, List.set_cons_succ, Nat.reduceAdd]
      refine kept_val _ (fun _ => rfl) (fun ρ w hw => by go_simp; first | done | with_reducible rfl) ?_
      simp only [Act.put, List.setIfInBounds_toArray, List.set_cons_zero, List.set_cons_succ, Nat.reduceAdd]
      refine kept_call _ _ _ (fun _ => rfl) (fun ρ w hw => by go_simp; first | done | with_reducible rfl) (fun w hw => c3.of hG (bto hb hw)) ?_
      simp only [Act.put, List.setIfInBounds_toArray, List.set_cons_zero, List.set_cons_succ, Nat.reduceAdd]
      refine kept_val _ (fun _ => rfl) (fun ρ w hw => by go_simp; first | done | with_reducible rfl) ?_
      simp only [Act.put, List.setIfInBounds_toArray, List.set_cons_zero, List.set_cons_succ, Nat.reduceAdd]
      refine kept_val _ (fun _ => rfl) (fun ρ w hw => by go_simp; first | done | with_reducible rfl) ?_
      simp only [Act.put, List.setIfInBounds_toArray, List.set_cons_zero, List.set_cons_succ, Nat.reduceAdd]
      refine kept_end (fun ρ w5 hF => ?_)
      replace x2 := x2.below hF.below
      replace x5 := x5.below hF.below
      replace x7 := x7.below hF.below
      replace hb := bto hb hF.below
      clear hF
      have qx7a := x7.c0
      have qx7b := x7.c1
      go_wp2_with fail
      ((with_reducible refine (c5.of hG hb).mono ?_); rintro e w6 ⟨rfl, hb6⟩)
      clear qx7a qx7b
      replace x2 := x2.below hb6
      replace x5 := x5.below hb6
      replace x7 := x7.below hb6
      replace hb := bto hb hb6
      clear hb6
      have qx7a := x7.c0
      have qx7b := x7.c1
      go_wp2_with fail
      ((with_reducible refine (c6.of hG hb).mono ?_); rintro e w7 ⟨rfl, hb7⟩)
      clear qx7a qx7b
      replace x2 := x2.below hb7
      replace x5 := x5.below hb7
      replace x7 := x7.below hb7
      replace hb := bto hb hb7
      clear hb7
      go_wp2_with fail
      ((with_reducible refine (cW.of hG hb).mono ?_); rintro e w8 ⟨rfl, hb8⟩)
      replace x2 := x2.below hb8
      replace x5 := x5.below hb8
      replace x7 := x7.below hb8
      replace hb := bto hb hb8
      clear hb8
      go_wp2
      go_ret
      exact ⟨rfl, hb⟩
end Go.Proofs.YtjhafnnfkaejgaaGreatDoor
