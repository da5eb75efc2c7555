/- FractionCanonical. -/
import Derived.Test.YtjhafnnfkaejgaaGreatDoorQlawb
namespace Go.Proofs.YtjhafnnfkaejgaaGreatDoor
open Go.RowKit Num

/-- what a round of the law needs of a canonical fraction -/
theorem canon_round {q : Rat} (hb : Bd 200 q) : Ret 14 #[(Value.agg #[Value.string ⟨List.toArray (fN q)⟩, Value.string ⟨List.toArray (fD q)⟩])] (.tuple #[.string ⟨(fN q).toArray⟩, .string ⟨(canon (q.den : Int)).toArray⟩]) ∧
    Ret 16 #[.string ⟨(fN q).toArray⟩, .string ⟨(canon (q.den : Int)).toArray⟩] (.tuple #[(Value.agg #[Value.string ⟨List.toArray (fN q)⟩, Value.string ⟨List.toArray (fD q)⟩]), .int .i64 0]) ∧
    Ret 18 #[(Value.agg #[Value.string ⟨List.toArray (fN q)⟩, Value.string ⟨List.toArray (fD q)⟩])] (.int .i64 0) ∧ Ret 40 #[.string ⟨(fN q).toArray⟩, .string ⟨(canon (q.den : Int)).toArray⟩] (.string ⟨#[49]⟩) ∧
    Ret 41 #[.string ⟨(canon (q.den : Int)).toArray⟩, .string ⟨#[]⟩] (.int .i64 1) ∧ Ret 22 #[(Value.agg #[Value.string ⟨List.toArray (fN q)⟩, Value.string ⟨List.toArray (fD q)⟩]), (Value.agg #[Value.string ⟨List.toArray (fN q)⟩, Value.string ⟨List.toArray (fD q)⟩])] (.int .i64 0) := by
  have iq := isq_fr hb (by decide)
  have hd : (canon (q.den : Int)).length ≤ 201 := canon_len_le _ _ (by simpa using hb.2)
  have hn := (bd_len hb).1
  have hz := q.den_nz
  refine ⟨rParts iq, ?_, ?_, ?_, ?_, ?_⟩
  · refine rNew (Nat.le_trans hn (by decide)) (Nat.le_trans hd (by decide)) (by rw [val_canon]; omega) ?_
    rw [val_fN, val_canon, Rat.num_divInt_den]
  · exact rCheck iq (by rw [if_pos ⟨rfl, rfl⟩])
  · have h := riGcd (l := fN q) (l' := canon (q.den : Int)) (z := 1) (Nat.le_trans hn (by decide)) (Nat.le_trans hd (by decide)) (by
      rw [val_fN, val_canon]
      show ((Nat.gcd q.num.natAbs (Int.natAbs (q.den : Int)) : Nat) : Int) = 1
      rw [Int.natAbs_natCast]
      exact congrArg Int.ofNat q.reduced)
    have e : canon 1 = [49] := by decide
    rw [e] at h; exact h
  · exact riCompare (l := canon (q.den : Int)) (l' := []) (c := 1) (Nat.le_trans hd (by decide)) (by decide) (by rw [val_canon, cmp0, if_neg (by omega), if_pos (by omega)])
  · exact rCompare iq iq ((cmpQ_eq q q).2 rfl)

set_option maxHeartbeats 4000000 in
set_option maxRecDepth 100000 in
theorem canonical_law (l l' k k' : List UInt8) (w : World) (hG : Glob w) :
    Calls Tryz.prog 9 #[(Value.agg #[Value.string ⟨List.toArray l⟩, Value.string ⟨List.toArray l'⟩]), (Value.agg #[Value.string ⟨List.toArray k⟩, Value.string ⟨List.toArray k'⟩])] w fun e w' => e = .returned (.bool true) ∧ Below w.heap.size w w' := by
  have cW := rAwake
  go_enter Tryz.func9, Tryz.ntmps9
  go_wp2_with fail
  ((with_reducible refine (great_any _ 2 2 (fun i => [l, l', k, k'].getD i []) _ (by decide) ?_).mono ?_))
  · intro i hi
    have hi : i = 0 ∨ i = 1 ∨ i = 2 ∨ i = 3 := by omega
    rcases hi with rfl | rfl | rfl | rfl <;> simp [go_sem]
  rintro e w1 ⟨hres, hb1⟩
  have x2 : FBox w1 (w.heap.size) (.string ⟨l.toArray⟩) (.string ⟨l'.toArray⟩) := FBox.below ⟨by simp [go_sem], by simp [go_sem], by simp [go_sem], by simp [go_sem], by first | (simp; done) | (simp; omega)⟩ hb1
  have x3 : FBox w1 (w.heap.size + 1) (.string ⟨k.toArray⟩) (.string ⟨k'.toArray⟩) := FBox.below ⟨by simp [go_sem], by simp [go_sem], by simp [go_sem], by simp [go_sem], by first | (simp; done) | (simp; omega)⟩ hb1
  have hb : Below w.heap.size w w1 := bto (bto (bto (below_alloc _ _) (below_alloc _ _)) (below_alloc _ _)) hb1
  clear hb1
  rcases hres with ⟨rfl, -⟩ | ⟨rfl, hlen⟩
  · go_wp2_with fail
    ((with_reducible refine (cW.of hG hb).mono ?_); rintro e w2 ⟨rfl, hb2⟩)
    go_wp2
    go_ret
    exact ⟨rfl, bto hb hb2⟩
  · have h0 : l.length ≤ 60 := hlen 0 (by decide)
    have h1 : l'.length ≤ 60 := hlen 1 (by decide)
    have h2 : k.length ≤ 60 := hlen 2 (by decide)
    have h3 : k'.length ≤ 60 := hlen 3 (by decide)
    clear hlen
    have iF := isq_raw h0 h1 (by decide)
    have iG := isq_raw h2 h3 (by decide)
    have bF : Bd 60 (fv l l') := bd_fv h0 h1 (by decide)
    have bG : Bd 60 (fv k k') := bd_fv h2 h3 (by decide)
    have bO : Bd 60 (val l : Rat) := bd_int (val_lt_of h0) (by decide)
    have cO := rOf (Nat.le_trans h0 (by decide)) (rfl : val l = val l)
    obtain ⟨f, hf⟩ : ∃ f, fv l l' = f := ⟨_, rfl⟩
    obtain ⟨g, hg⟩ : ∃ g, fv k k' = g := ⟨_, rfl⟩
    obtain ⟨o, ho⟩ : ∃ o, (val l : Rat) = o := ⟨_, rfl⟩
    rw [hf] at iF bF
    rw [hg] at iG bG
    rw [ho] at cO bO
    obtain ⟨z, hz⟩ : ∃ z, cmpQ f g = z := ⟨_, rfl⟩
    obtain ⟨c, hc⟩ : ∃ c : Int, (if l = fN f ∧ l' = fD f then 0 else 1) = c := ⟨_, rfl⟩
    have hzf := cmpQ_eq f g
    rw [hz] at hzf
    have c1 := rAdd iF isq_zero (Rat.add_zero f)
    have c2 := rAdd iG isq_zero (Rat.add_zero g)
    have c3 : ∃ (q : Rat) (n : Int), Bd 200 q ∧ Ret 31 #[(Value.agg #[Value.string ⟨List.toArray l⟩, Value.string ⟨List.toArray l'⟩]), (Value.agg #[Value.string ⟨List.toArray k⟩, Value.string ⟨List.toArray k'⟩])] (.tuple #[(Value.agg #[Value.string ⟨List.toArray (fN q)⟩, Value.string ⟨List.toArray (fD q)⟩]), .int .i64 n]) := by
      by_cases h : g = 0
      · have e1 : fN 0 = [] := by decide +kernel
        have e2 : fD 0 = [] := by decide +kernel
        refine ⟨0, 10, bd_mono bd_zero (by decide), ?_⟩
        rw [e1, e2]
        exact rQuo0 iG h
      · exact ⟨f / g, 0, by rw [Rat.div_def]; exact bd_mono (bd_mul bF (bd_inv bG h)) (by decide), rQuo iF iG h rfl⟩
    obtain ⟨q, nq, bq, c3⟩ := c3
    have c4 := rMul iF iG rfl
    have c5 := rNeg iF rfl
    have c6 := rSub iF iG rfl
    have c7 := rCompare iF iG hz
    have c8 := rCheck iF hc
    have ex1 : ((fN f == fN g) = true ∧ (fD f == fD g) = true ∧ (z == 0) = true) ∨ ((fN f == fN g) = false ∧ (z == 0) = false) ∨ ((fN f == fN g) = true ∧ (fD f == fD g) = false ∧ (z == 0) = false) := by
      by_cases h : f = g
      · exact .inl ⟨by rw [h, beq_iff_eq], by rw [h, beq_iff_eq], by rw [beq_iff_eq]; exact hzf.2 h⟩
      · have hz0 : (z == 0) = false := by rw [beq_eq_false_iff_ne]; exact fun e => h (hzf.1 e)
        by_cases h1 : fN f = fN g
        · exact .inr (.inr ⟨by rw [beq_iff_eq]; exact h1, by rw [beq_eq_false_iff_ne]; exact fun e => h (frac_inj h1 e), hz0⟩)
        · exact .inr (.inl ⟨by rw [beq_eq_false_iff_ne]; exact h1, hz0⟩)
    have ex2 : ((l == fN f) = true ∧ (l' == fD f) = true ∧ (c == 0) = true) ∨ ((l == fN f) = false ∧ (c == 0) = false) ∨ ((l == fN f) = true ∧ (l' == fD f) = false ∧ (c == 0) = false) := by
      by_cases h : l = fN f ∧ l' = fD f
      · rw [if_pos h] at hc
        exact .inl ⟨by rw [beq_iff_eq]; exact h.1, by rw [beq_iff_eq]; exact h.2, by rw [beq_iff_eq]; exact hc.symm⟩
      · rw [if_neg h] at hc
        have hc0 : (c == 0) = false := by rw [beq_eq_false_iff_ne]; omega
        by_cases h1 : l = fN f
        · exact .inr (.inr ⟨by rw [beq_iff_eq]; exact h1, by rw [beq_eq_false_iff_ne]; exact fun e => h ⟨h1, e⟩, hc0⟩)
        · exact .inr (.inl ⟨by rw [beq_eq_false_iff_ne]; exact h1, hc0⟩)
    have HR : ∀ i, i < 7 → ∃ r : Rat, Bd 200 r ∧ [fN f, fD f, fN g, fD g, fN q, fD q, fN (f * g), fD (f * g), fN (-f), fD (-f), fN (f - g), fD (f - g), fN o, fD o].getD (i * 2) [] = fN r ∧
        [fN f, fD f, fN g, fD g, fN q, fD q, fN (f * g), fD (f * g), fN (-f), fD (-f), fN (f - g), fD (f - g), fN o, fD o].getD (i * 2 + 1) [] = fD r := by
      intro i hi
      have hi : i = 0 ∨ i = 1 ∨ i = 2 ∨ i = 3 ∨ i = 4 ∨ i = 5 ∨ i = 6 := by omega
      rcases hi with rfl | rfl | rfl | rfl | rfl | rfl | rfl
      · exact ⟨f, bd_mono bF (by decide), rfl, rfl⟩
      · exact ⟨g, bd_mono bG (by decide), rfl, rfl⟩
      · exact ⟨q, bq, rfl, rfl⟩
      · exact ⟨f * g, bd_mono (bd_mul bF bG) (by decide), rfl, rfl⟩
      · exact ⟨-f, bd_mono (bd_neg bF) (by decide), rfl, rfl⟩
      · exact ⟨f - g, bd_mono (bd_sub bF bG) (by decide), rfl, rfl⟩
      · exact ⟨o, bd_mono bO (by decide), rfl, rfl⟩
    generalize fN (f * g) = P0 at *
    generalize fD (f * g) = P1 at *
    generalize fN (-f) = N0 at *
    generalize fD (-f) = N1 at *
    generalize fN (f - g) = D0 at *
    generalize fD (f - g) = D1 at *
    generalize fN (f) = F0 at *
    generalize fD (f) = F1 at *
    generalize fN (g) = G0 at *
    generalize fD (g) = G1 at *
    generalize fN (o) = O0 at *
    generalize fD (o) = O1 at *
    generalize hQ0 : fN q = Q0 at *
    generalize hQ1 : fD q = Q1 at *
    clear hQ0 hQ1
    have E1 := Lib.hid ex1
    have E2 := Lib.hid ex2
    have HR := Lib.hid HR
    clear iF iG bF bG bO bq hf hg ho hz hc hzf ex1 ex2 h0 h1 h2 h3
    go_wp2_with fail
    refine wp_region_kept (by kernel_rfl) (by kernel_rfl) ?_
    refine kept_val _ (fun _ => rfl) (fun ρ w hw => by have q0 := (x2.below hw).c0; have q1 := (x2.below hw).c1; go_simp; first | done | with_reducible rfl) ?_
    simp only [Act.put, List.setIfInBounds_toArray, List.set_cons_zero, List.set_cons_succ, Nat.reduceAdd]
    refine kept_val _ (fun _ => rfl) (fun ρ w hw => by go_simp; first | done | with_reducible rfl) ?_
    simp only [Act.put, List.setIfInBounds_toArray, List.set_cons_zero, List.set_cons_succ, Nat.reduceAdd]
    refine kept_call _ _ _ (fun _ => rfl) (fun ρ w hw => by go_simp; first | done | with_reducible rfl) (fun w hw => c1.of hG (bto hb hw)) ?_
    simp only [Act.put, List.setIfInBounds_toArray, List.set_cons_zero, List.set_cons_succ, Nat.reduceAdd]
    refine kept_val _ (fun _ => rfl) (fun ρ w hw => by have q0 := (x3.below hw).c0; have q1 := (x3.below hw).c1; go_simp; first | done | with_reducible rfl) ?_
    simp only [Act.put, List.setIfInBounds_toArray, List.set_cons_zero, List.set_cons_succ, Nat.reduceAdd]
    refine kept_val _ (fun _ => rfl) (fun ρ w hw => by go_simp; first | done | with_reducible rfl) ?_
    simp only [Act.put, List.setIfInBounds_toArray, List.set_cons_zero, List.set_cons_succ, Nat.reduceAdd]
    refine kept_call _ _ _ (fun _ => rfl) (fun ρ w hw => by go_simp; first | done | with_reducible rfl) (fun w hw => c2.of hG (bto hb hw)) ?_
    simp only [Act.put, List.setIfInBounds_toArray, List.set_cons_zero, List.set_cons_succ, Nat.reduceAdd]
    refine kept_box (fun b => .pointer (some ⟨b, 0, none⟩)) _ rfl (fun _ => rfl) (fun ρ w hw => by go_simp; first | done | with_reducible rfl) ?_
    simp only [Act.put, List.setIfInBounds_toArray, List.set_cons_zero, List.set_cons_succ, Nat.reduceAdd]
    refine kept_box (fun b => .pointer (some ⟨b, 0, none⟩)) _ rfl (fun _ => rfl) (fun ρ w hw => by go_simp; first | done | with_reducible rfl) ?_
    simp only [Act.put, List.setIfInBounds_toArray, List.set_cons_zero, List.set_cons_succ, Nat.reduceAdd]
    refine kept_put2 6 _ 5 _ _ _ _ _ rfl rfl rfl (by decide) (fun _ => rfl) (fun ρ w hw q0 q1 q2 q3 => by go_simp; first | done | with_reducible rfl) ?_
    simp only [Act.put, Nat.reduceAdd]
    refine kept_put2 7 _ 6 _ _ _ _ _ rfl rfl rfl (by decide) (fun _ => rfl) (fun ρ w hw q0 q1 q2 q3 => by go_simp; first | done | with_reducible rfl) ?_
    simp only [Act.put, Nat.reduceAdd]
    refine kept_end (fun ρ w2 hF => ?_)
    replace x2 := x2.below hF.below
    replace x3 := x3.below hF.below
    replace hb := bto hb hF.below
    have x5 := FBox.ofB (hF.box 6 _ _ rfl).2
    generalize ρ 6 = b5 at *
    have x6 := FBox.ofB (hF.box 7 _ _ rfl).2
    generalize ρ 7 = b6 at *
    clear hF
    have qx2a := x2.c0
    have qx2b := x2.c1
    have qx3a := x3.c0
    have qx3b := x3.c1
    go_wp2_with fail
    ((with_reducible refine (c3.of hG hb).mono ?_); rintro e w3 ⟨rfl, hb3⟩)
    clear qx2a qx2b qx3a qx3b
    replace x2 := x2.below hb3
    replace x3 := x3.below hb3
    replace x5 := x5.below hb3
    replace x6 := x6.below hb3
    replace hb := bto hb hb3
    clear hb3
    replace x2 := x2.below (below_alloc w3 (.cells #[.string ⟨Q0.toArray⟩, .string ⟨Q1.toArray⟩] 24))
    replace x3 := x3.below (below_alloc w3 (.cells #[.string ⟨Q0.toArray⟩, .string ⟨Q1.toArray⟩] 24))
    replace x5 := x5.below (below_alloc w3 (.cells #[.string ⟨Q0.toArray⟩, .string ⟨Q1.toArray⟩] 24))
    replace x6 := x6.below (below_alloc w3 (.cells #[.string ⟨Q0.toArray⟩, .string ⟨Q1.toArray⟩] 24))
    have x7 := FBox.new w3 (.string ⟨Q0.toArray⟩) (.string ⟨Q1.toArray⟩) 24
    replace hb := bto hb (below_alloc w3 (.cells #[.string ⟨Q0.toArray⟩, .string ⟨Q1.toArray⟩] 24))
    go_wp2_with fail
    refine wp_region_kept (by kernel_rfl) (by kernel_rfl) ?_
    refine kept_val _ (fun _ => rfl) (fun ρ w hw => by have q0 := (x5.below hw).c0; have q1 := (x5.below hw).c1; go_simp; first | done | with_reducible rfl) ?_
    simp only [Act.put, List.setIfInBounds_toArray, List.set_cons_zero, List.set_cons_succ, Nat.reduceAdd]
    refine kept_val _ (fun _ => rfl) (fun ρ w hw => by have q0 := (x6.below hw).c0; have q1 := (x6.below hw).c1; go_simp; first | done | with_reducible rfl) ?_
    simp only [Act.put, List.setIfInBounds_toArray, List.set_cons_zero, List.set_cons_succ, Nat.reduceAdd]
    refine kept_val _ (fun _ => rfl) (fun ρ w hw => by have q0 := (x7.below hw).c0; have q1 := (x7.below hw).c1; go_simp; first | done | with_reducible rfl) ?_
    simp only [Act.put, List.setIfInBounds_toArray, List.set_cons_zero, List.set_cons_succ, Nat.reduceAdd]
    refine kept_val _ (fun _ => rfl) (fun ρ w hw => by have q0 := (x2.below hw).c0; have q1 := (x2.below hw).c1; go_simp; first | done | with_reducible rfl) ?_
    simp only [Act.put, List.setIfInBounds_toArray, List.set_cons_zero, List.set_cons_succ, Nat.reduceAdd]
    refine kept_val _ (fun _ => rfl) (fun ρ w hw => by have q0 := (x3.below hw).c0; have q1 := (x3.below hw).c1; go_simp; first | done | with_reducible rfl) ?_
    simp only [Act.put, List.setIfInBounds_toArray, List.set_cons_zero, List.set_cons_succ, Nat.reduceAdd]
    refine kept_call _ _ _ (fun _ => rfl) (fun ρ w hw => by go_simp; first | done | with_reducible rfl) (fun w hw => c4.of hG (bto hb hw)) ?_
    simp only [Act.put, List.setIfInBounds_toArray, List.set_cons_zero, List.set_cons_succ, Nat.reduceAdd]
    refine kept_val _ (fun _ => rfl) (fun ρ w hw => by have q0 := (x2.below hw).c0; have q1 := (x2.below hw).c1; go_simp; first | done | with_reducible rfl) ?_
    simp only [Act.put, List.setIfInBounds_toArray, List.set_cons_zero, List.set_cons_succ, Nat.reduceAdd]
    refine kept_call _ _ _ (fun _ => rfl) (fun ρ w hw => by go_simp; first | done | with_reducible rfl) (fun w hw => c5.of hG (bto hb hw)) ?_
    simp only [Act.put, List.setIfInBounds_toArray, List.set_cons_zero, List.set_cons_succ, Nat.reduceAdd]
    refine kept_val _ (fun _ => rfl) (fun ρ w hw => by have q0 := (x2.below hw).c0; have q1 := (x2.below hw).c1; go_simp; first | done | with_reducible rfl) ?_
    simp only [Act.put, List.setIfInBounds_toArray, List.set_cons_zero, List.set_cons_succ, Nat.reduceAdd]
    refine kept_val _ (fun _ => rfl) (fun ρ w hw => by have q0 := (x3.below hw).c0; have q1 := (x3.below hw).c1; go_simp; first | done | with_reducible rfl) ?_
    simp only [Act.put, List.setIfInBounds_toArray, List.set_cons_zero, List.set_cons_succ, Nat.reduceAdd]
    refine kept_call _ _ _ (fun _ => rfl) (fun ρ w hw => by go_simp; first | done | with_reducible rfl) (fun w hw => c6.of hG (bto hb hw)) ?_
    simp only [Act.put, List.setIfInBounds_toArray, List.set_cons_zero, List.set_cons_succ, Nat.reduceAdd]
    refine kept_val _ (fun _ => rfl) (fun ρ w hw => by go_simp; first | done | with_reducible rfl) ?_
    simp only [Act.put, List.setIfInBounds_toArray, List.set_cons_zero, List.set_cons_succ, Nat.reduceAdd]
    refine kept_val _ (fun _ => rfl) (fun ρ w hw => by have q0 := (x2.below hw).c0; have q1 := (x2.below hw).c1; go_simp; first | done | with_reducible rfl) ?_
    simp only [Act.put, List.setIfInBounds_toArray, List.set_cons_zero, List.set_cons_succ, Nat.reduceAdd]
    refine kept_call _ _ _ (fun _ => rfl) (fun ρ w hw => by go_simp; first | done | with_reducible rfl) (fun w hw => cO.of hG (bto hb hw)) ?_
    simp only [Act.put, List.setIfInBounds_toArray, List.set_cons_zero, List.set_cons_succ, Nat.reduceAdd]
    refine kept_box (fun b => .slice (some ⟨b, 0, none⟩) 7 7) _ rfl (fun _ => rfl) (fun ρ w hw => by go_simp; first | done | with_reducible rfl) ?_
    simp only [Act.put, List.setIfInBounds_toArray, List.set_cons_zero, List.set_cons_succ, Nat.reduceAdd]
    refine kept_val _ (fun _ => rfl) (fun ρ w hw => by go_simp; first | done | with_reducible rfl) ?_
    simp only [Act.put, List.setIfInBounds_toArray, List.set_cons_zero, List.set_cons_succ, Nat.reduceAdd]
    refine kept_val _ (fun _ => rfl) (fun ρ w hw => by go_simp; first | done | with_reducible rfl) ?_
    simp only [Act.put, List.setIfInBounds_toArray, List.set_cons_zero, List.set_cons_succ, Nat.reduceAdd]
    refine kept_end (fun ρ w4 hF => ?_)
    replace x2 := x2.below hF.below
    replace x3 := x3.below hF.below
    replace x5 := x5.below hF.below
    replace x6 := x6.below hF.below
    replace x7 := x7.below hF.below
    replace hb := bto hb hF.below
    have hblk := (hF.box 14 _ _ rfl).2
    generalize ρ 14 = b46 at *
    clear hF
    have hcell : ∀ i, i < 7 → ∃ r : Rat, Bd 200 r ∧ w4.cell? ⟨b46, i * 2, none⟩ = some (.string ⟨(fN r).toArray⟩) ∧ w4.cell? ⟨b46, i * 2 + 1, none⟩ = some (.string ⟨(fD r).toArray⟩) := by
      intro i hi
      obtain ⟨r, hr, h1, h2⟩ := HR.out i hi
      refine ⟨r, hr, ?_, ?_⟩
      · rw [← h1, cell_of_row _ _ _ _ _ _ hblk]
        have hi : i = 0 ∨ i = 1 ∨ i = 2 ∨ i = 3 ∨ i = 4 ∨ i = 5 ∨ i = 6 := by omega
        rcases hi with rfl | rfl | rfl | rfl | rfl | rfl | rfl <;> rfl
      · rw [← h2, cell_of_row _ _ _ _ _ _ hblk]
        have hi : i = 0 ∨ i = 1 ∨ i = 2 ∨ i = 3 ∨ i = 4 ∨ i = 5 ∨ i = 6 := by omega
        rcases hi with rfl | rfl | rfl | rfl | rfl | rfl | rfl <;> rfl
    have hlt : b46 < w4.heap.size := (Array.getElem?_eq_some_iff.1 hblk).1
    clear HR hblk
    have HC := Lib.hid hcell
    clear hcell
    go_wp2_with fail
    go_loopw [48] (fun iv wr => ∃ i : Nat, i ≤ 7 ∧ iv = .int .i64 (i : Int) ∧ Below w4.heap.size w4 wr) (fun iv _ => 7 - (intOf iv).toNat)
    case atStart => exact ⟨0, by omega, rfl, Below.refl _ _⟩
    case round =>
      obtain ⟨i, hi, rfl, hbr⟩ := hrel
      by_cases hi7 : i < 7
      · obtain ⟨r, hr, q1, q2⟩ := HC.out i hi7
        obtain ⟨d1, d2, d3, d4, d5, d6⟩ := canon_round hr
        have q1 := (hbr.cell (p := ⟨b46, i * 2, none⟩) hlt).trans q1
        have q2 := (hbr.cell (p := ⟨b46, i * 2 + 1, none⟩) hlt).trans q2
        generalize fN r = R0 at *
        generalize fD r = R1 at *
        generalize canon (r.den : Int) = R2 at *
        have hB := bto hb hbr
        clear hr HC E1 E2
        go_wp2_with fail
        have hG := hG.below hb
        have hb := bto hbr (below_alloc wr (.cells #[.string ⟨R0.toArray⟩, .string ⟨R1.toArray⟩] 24))
        have x10 := FBox.new wr (.string ⟨R0.toArray⟩) (.string ⟨R1.toArray⟩) 24
        clear hB hbr x2 x3 x5 x6 x7 c1 c2 c3 c4 c5 c6 c7 c8 cO cW q1 q2
        ((with_reducible refine (d1.of hG hb).mono ?_); rintro e w5 ⟨rfl, hb5⟩)
        replace x10 := x10.below hb5
        replace hb := bto hb hb5
        clear hb5
        go_wp2_with fail
        ((with_reducible refine (d2.of hG hb).mono ?_); rintro e w6 ⟨rfl, hb6⟩)
        replace x10 := x10.below hb6
        replace hb := bto hb hb6
        clear hb6
        replace x10 := x10.below (below_alloc w6 (.cells #[.string ⟨R0.toArray⟩, .string ⟨R1.toArray⟩] 24))
        have x13 := FBox.new w6 (.string ⟨R0.toArray⟩) (.string ⟨R1.toArray⟩) 24
        replace hb := bto hb (below_alloc w6 (.cells #[.string ⟨R0.toArray⟩, .string ⟨R1.toArray⟩] 24))
        have qx10a := x10.c0
        have qx10b := x10.c1
        go_wp2_with fail
        ((with_reducible refine (d3.of hG hb).mono ?_); rintro e w7 ⟨rfl, hb7⟩)
        clear qx10a qx10b
        replace x10 := x10.below hb7
        replace x13 := x13.below hb7
        replace hb := bto hb hb7
        clear hb7
        have qx10a := x10.c0
        have qx10b := x10.c1
        have qx13a := x13.c0
        have qx13b := x13.c1
        go_wp2_with fail
        ((with_reducible refine (d4.of hG hb).mono ?_); rintro e w8 ⟨rfl, hb8⟩)
        clear qx10a qx10b qx13a qx13b
        replace x10 := x10.below hb8
        replace x13 := x13.below hb8
        replace hb := bto hb hb8
        clear hb8
        go_wp2_with fail
        ((with_reducible refine (d5.of hG hb).mono ?_); rintro e w9 ⟨rfl, hb9⟩)
        replace x10 := x10.below hb9
        replace x13 := x13.below hb9
        replace hb := bto hb hb9
        clear hb9
        have qx10a := x10.c0
        have qx10b := x10.c1
        have qx13a := x13.c0
        have qx13b := x13.c1
        go_wp2_with fail
        ((with_reducible refine (d6.of hG hb).mono ?_); rintro e w10 ⟨rfl, hb10⟩)
        clear qx10a qx10b qx13a qx13b
        replace x10 := x10.below hb10
        replace x13 := x13.below hb10
        replace hb := bto hb hb10
        clear hb10
        go_wp2
        go_roundw
        case rel => exact ⟨i + 1, by omega, by go_num, hb⟩
        case measure => simp [intOf]; omega
      · obtain rfl : i = 7 := by omega
        replace x2 := x2.below hbr
        replace x3 := x3.below hbr
        replace x5 := x5.below hbr
        replace x6 := x6.below hbr
        replace x7 := x7.below hbr
        replace hb := bto hb hbr
        go_wp2_with fail
        rcases E1.out with ⟨e1, e2, e3⟩ | ⟨e1, e3⟩ | ⟨e1, e2, e3⟩ <;> rcases E2.out with ⟨e4, e5, e6⟩ | ⟨e4, e6⟩ | ⟨e4, e5, e6⟩
        all_goals
          clear E1 E2 hbr HC hlt
          refine wp_region_kept (by kernel_rfl) (by kernel_rfl) ?_
          refine kept_val _ (fun _ => rfl) (fun ρ w hw => by have q0 := (x5.below hw).c0; have q1 := (x5.below hw).c1; go_simp; first | done | with_reducible rfl) ?_
          simp only [Act.put, List.setIfInBounds_toArray, List.set_cons_zero, List.set_cons_succ, Nat.reduceAdd]
          refine kept_val _ (fun _ => rfl) (fun ρ w hw => by have q0 := (x6.below hw).c0; have q1 := (x6.below hw).c1; go_simp; first | done | with_reducible rfl) ?_
          simp only [Act.put, List.setIfInBounds_toArray, List.set_cons_zero, List.set_cons_succ, Nat.reduceAdd]
          refine kept_val _ (fun _ => rfl) (fun ρ w hw => by go_simp; first | done | with_reducible rfl) ?_
          simp only [Act.put, List.setIfInBounds_toArray, List.set_cons_zero, List.set_cons_succ, Nat.reduceAdd]
          refine kept_val _ (fun _ => rfl) (fun ρ w hw => by have q0 := (x2.below hw).c0; have q1 := (x2.below hw).c1; go_simp; first | done | with_reducible rfl) ?_
          simp only [Act.put, List.setIfInBounds_toArray, List.set_cons_zero, List.set_cons_succ, Nat.reduceAdd]
          refine kept_val _ (fun _ => rfl) (fun ρ w hw => by have q0 := (x3.below hw).c0; have q1 := (x3.below hw).c1; go_simp; first | done | with_reducible rfl) ?_
          simp only [Act.put, List.setIfInBounds_toArray, List.set_cons_zero, List.set_cons_succ, Nat.reduceAdd]
          refine kept_call _ _ _ (fun _ => rfl) (fun ρ w hw => by go_simp; first | done | with_reducible rfl) (fun w hw => c7.of hG (bto hb hw)) ?_
          simp only [Act.put, List.setIfInBounds_toArray, List.set_cons_zero, List.set_cons_succ, Nat.reduceAdd]
          refine kept_val _ (fun _ => rfl) (fun ρ w hw => by go_simp; first | done | with_reducible rfl) ?_
          simp only [Act.put, List.setIfInBounds_toArray, List.set_cons_zero, List.set_cons_succ, Nat.reduceAdd]
          refine kept_val _ (fun _ => rfl) (fun ρ w hw => by go_simp; first | done | with_reducible rfl) ?_
          simp only [Act.put, List.setIfInBounds_toArray, List.set_cons_zero, List.set_cons_succ, Nat.reduceAdd]
          refine kept_val _ (fun _ => rfl) (fun ρ w hw => by go_simp; first | done | with_reducible rfl) ?_
          simp only [Act.put, List.setIfInBounds_toArray, List.set_cons_zero, List.set_cons_succ, Nat.reduceAdd]
          refine kept_val _ (fun _ => rfl) (fun ρ w hw => by have q0 := (x2.below hw).c0; have q1 := (x2.below hw).c1; go_simp; first | done | with_reducible rfl) ?_
          simp only [Act.put, List.setIfInBounds_toArray, List.set_cons_zero, List.set_cons_succ, Nat.reduceAdd]
          refine kept_call _ _ _ (fun _ => rfl) (fun ρ w hw => by go_simp; first | done | with_reducible rfl) (fun w hw => c8.of hG (bto hb hw)) ?_
          simp only [Act.put, List.setIfInBounds_toArray, List.set_cons_zero, List.set_cons_succ, Nat.reduceAdd]
          refine kept_val _ (fun _ => rfl) (fun ρ w hw => by go_simp; first | done | with_reducible rfl) ?_
          simp only [Act.put, List.setIfInBounds_toArray, List.set_cons_zero, List.set_cons_succ, Nat.reduceAdd]
          refine kept_val _ (fun _ => rfl) (fun ρ w hw => by have q0 := (x2.below hw).c0; have q1 := (x2.below hw).c1; go_simp; first | done | with_reducible rfl) ?_
          simp only [Act.put, List.setIfInBounds_toArray, List.set_cons_zero, List.set_cons_succ, Nat.reduceAdd]
          refine kept_val _ (fun _ => rfl) (fun ρ w hw => by have q0 := (x5.below hw).c0; have q1 := (x5.below hw).c1; go_simp; first | done | with_reducible rfl) ?_
          simp only [Act.put, List.setIfInBounds_toArray, List.set_cons_zero, List.set_cons_succ, Nat.reduceAdd]
          refine kept_val _ (fun _ => rfl) (fun ρ w hw => by go_simp; first | done | with_reducible rfl) ?_
          simp only [Act.put, List.setIfInBounds_toArray, List.set_cons_zero, List.set_cons_succ, Nat.reduceAdd]
          refine kept_val _ (fun _ => rfl) (fun ρ w hw => by go_simp; first | done | with_reducible rfl) ?_
          simp only [Act.put, List.setIfInBounds_toArray, List.set_cons_zero, List.set_cons_succ, Nat.reduceAdd]
          refine kept_val _ (fun _ => rfl) (fun ρ w hw => by go_simp; first | done | with_reducible rfl) ?_
          simp only [Act.put, List.setIfInBounds_toArray, List.set_cons_zero, List.set_cons_succ, Nat.reduceAdd]
          refine kept_val _ (fun _ => rfl) (fun ρ w hw => by go_simp; first | done | with_reducible rfl) ?_
          simp only [Act.put, List.setIfInBounds_toArray, List.set_cons_zero, List.set_cons_succ, Nat.reduceAdd]
          refine kept_call _ _ _ (fun _ => rfl) (fun ρ w hw => by go_simp; first | done | with_reducible rfl) (fun w hw => cW.of hG (bto hb hw)) ?_
          simp only [Act.put, List.setIfInBounds_toArray, List.set_cons_zero, List.set_cons_succ, Nat.reduceAdd]
          refine kept_val _ (fun _ => rfl) (fun ρ w hw => by go_simp; first | done | with_reducible rfl) ?_
          simp only [Act.put, List.setIfInBounds_toArray, List.set_cons_zero, List.set_cons_succ, Nat.reduceAdd]
          refine kept_val _ (fun _ => rfl) (fun ρ w hw => by go_simp; first | done | with_reducible rfl) ?_
          simp only [Act.put, List.setIfInBounds_toArray, List.set_cons_zero, List.set_cons_succ, Nat.reduceAdd]
          refine kept_end (fun ρ w10 hF => ?_)
          replace x2 := x2.below hF.below
          replace x3 := x3.below hF.below
          replace x5 := x5.below hF.below
          replace x6 := x6.below hF.below
          replace x7 := x7.below hF.below
          replace hb := bto hb hF.below
          clear hF
          go_wp2
          go_ret
          exact ⟨rfl, hb⟩
end Go.Proofs.YtjhafnnfkaejgaaGreatDoor
