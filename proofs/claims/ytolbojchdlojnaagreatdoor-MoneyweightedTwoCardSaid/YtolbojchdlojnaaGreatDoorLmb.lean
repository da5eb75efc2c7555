/- MoneyweightedBounds. -/
import Derived.Test.YtolbojchdlojnaaGreatDoorLmv
namespace Go.Proofs.YtolbojchdlojnaaGreatDoor
open Go.RowKit Num
theorem bndV_form (ps : List Pay) (p z : Int) : ∃ (a b c d : List UInt8) (x : Int), bndV ps p z = .tuple #[(Value.agg #[Value.string ⟨List.toArray a⟩, Value.string ⟨List.toArray b⟩]), (Value.agg #[Value.string ⟨List.toArray c⟩, Value.string ⟨List.toArray d⟩]), .int .i64 x] := by
  unfold bndV
  split
  · exact ⟨[], [], [], [], 1, rfl⟩
  · split
    · exact ⟨[], [], [], [], 2, rfl⟩
    · split
      · exact ⟨[], [], [], [], 25, rfl⟩
      · exact ⟨_, _, _, _, 0, rfl⟩
/-- both texts of Bounds return the same -/
theorem both_bnd {ps : List Pay} {n M : Nat} (w : World) (hG : Glob w) (A : Option Addr) (c : Nat) (p : Int) (h : PL w A ps n) (hn8 : payE ps = 0 → n ≤ 8) (hspan : payE ps = 0 → ∀ a z, ps[0]? = some a → ps[n - 1]? = some z → z.per - a.per ≤ 12) (hM : 1 ≤ M) (hM2 : M ≤ 26) (hm : ∀ p ∈ ps, (val p.amt).natAbs < 10 ^ M ∧ p.amt.length ≤ 1000) :
    ∃ z, RetB w 14 #[.slice A n c, .int .i64 p] (bndV ps p z) ∧ RetB w 33 #[.slice A n c, .int .i64 p] (bndV ps p z) ∧ (payE ps = 0 → 0 ≤ p → p ≤ 12 → chN (sumsL 0 (pzs ps)) = 1 → Root (pzs ps) ((10 ^ p.toNat : Nat) : Int) z) := by
  by_cases hb : ¬ payE ps = 0 ∨ (p < 0 ∨ 12 < p) ∨ ¬ chN (sumsL 0 (pzs ps)) = 1
  · exact ⟨0, fun w' hb' => mwBounds_bad A ps n c p 0 w' (hG.below hb') (h.below hb') hb, fun w' hb' => mrBounds_bad A ps n c p 0 w' (hG.below hb') (h.below hb') hb, fun g1 g2 g3 g4 => by
      rcases hb with hb | hb | hb
      · exact absurd g1 hb
      · omega
      · exact absurd g4 hb⟩
  · have g1 : payE ps = 0 := Decidable.of_not_not (fun g => hb (.inl g))
    have g2 : ¬ (p < 0 ∨ 12 < p) := fun g => hb (.inr (.inl g))
    have g3 : chN (sumsL 0 (pzs ps)) = 1 := Decidable.of_not_not (fun g => hb (.inr (.inr g)))
    obtain ⟨-, -, hu, -⟩ := payE_ok g1
    obtain ⟨z, hz⟩ := root_is (pzs ps) 0 ((10 ^ p.toNat : Nat) : Int) hu g3 (u_pos p)
    have hB := bnd_root (M := M) h.len (hn8 g1) (hspan g1) g1 hM hM2 hm (by omega) (by omega) hz
    exact ⟨z, fun w' hb' => mwBounds_ok A ps n c p z 41 w' (hG.below hb') (h.below hb') g1 (by omega) (by omega) g3 hB, fun w' hb' => mrBounds_ok A ps n c p z 41 w' (hG.below hb') (h.below hb') g1 (by omega) (by omega) g3 hB, fun _ _ _ _ => hz⟩
set_option maxHeartbeats 4000000 in
set_option maxRecDepth 100000 in
theorem mbounds_law (A : Option Addr) (ps : List Pay) (n c : Nat) (p : Int) (l l' k k' : List UInt8) (w : World) (hG : Glob w) (hn : ps.length = n) (hnm : n ≤ 9223372036854775807) (hI : PayAt w A ps) :
    Calls Tryz.prog 6 #[.slice A n c, .int .i64 p, (Value.agg #[Value.string ⟨List.toArray l⟩, Value.string ⟨List.toArray l'⟩]), (Value.agg #[Value.string ⟨List.toArray k⟩, Value.string ⟨List.toArray k'⟩])] w fun e w' => e = .returned (.bool true) ∧ Below w.heap.size w w' := by
  have CW := Lib.hid wAwake47
  have CL := Lib.hid (wLong l l')
  have CK := Lib.hid (wLong k k')
  have HI := Lib.hid hI
  have x6 := (FBox.new w (.string ⟨l.toArray⟩) (.string ⟨l'.toArray⟩) 30).below (below_alloc _ (.cells #[.string ⟨k.toArray⟩, .string ⟨k'.toArray⟩] 30))
  have x7 := FBox.new (w.alloc (.cells #[.string ⟨l.toArray⟩, .string ⟨l'.toArray⟩] 30)) (.string ⟨k.toArray⟩) (.string ⟨k'.toArray⟩) 30
  have hb := bto (below_alloc w (.cells #[.string ⟨l.toArray⟩, .string ⟨l'.toArray⟩] 30)) (below_alloc _ (.cells #[.string ⟨k.toArray⟩, .string ⟨k'.toArray⟩] 30))
  simp only [World.size_alloc] at x7
  clear hI
  go_enter Tryz.func6, Tryz.ntmps6
  go_wp2_with fail
  ((with_reducible refine (mrGreat A ps n c _ (hG.below hb) hn hnm (HI.out.below hb)).mono ?_); rintro e w1 ⟨g, rfl, hgd, hb1⟩)
  replace x6 := x6.below hb1
  replace x7 := x7.below hb1
  replace hb := bto hb hb1
  clear hb1
  cases g
  rotate_left
  · clear hgd
    clear x6
    clear x7
    go_wp2_with fail
    ((with_reducible refine (CW.out.of hG hb).mono ?_); rintro e w2 ⟨rfl, hb2⟩)
    replace hb := bto hb hb2
    clear hb2
    go_wp2
    go_ret
    exact ⟨rfl, hb⟩
  have HGd := Lib.hid (hgd rfl)
  clear hgd hn hnm
  have qx6_0 := x6.c0
  have qx6_1 := x6.c1
  go_wp2_with fail
  ((with_reducible refine (CL.out.of hG hb).mono ?_); rintro e w2 ⟨rfl, hb2⟩)
  clear qx6_0 qx6_1
  replace x6 := x6.below hb2
  replace x7 := x7.below hb2
  replace hb := bto hb hb2
  clear hb2
  cases hlong : longF l l'
  rotate_left
  · clear x6
    clear x7
    go_wp2_with fail
    ((with_reducible refine (CW.out.of hG hb).mono ?_); rintro e w3 ⟨rfl, hb3⟩)
    replace hb := bto hb hb3
    clear hb3
    go_wp2
    go_ret
    exact ⟨rfl, hb⟩
  obtain ⟨h0, h1⟩ := longF_f hlong
  clear hlong
  have qx7_0 := x7.c0
  have qx7_1 := x7.c1
  go_wp2_with fail
  ((with_reducible refine (CK.out.of hG hb).mono ?_); rintro e w3 ⟨rfl, hb3⟩)
  clear qx7_0 qx7_1
  replace x6 := x6.below hb3
  replace x7 := x7.below hb3
  replace hb := bto hb hb3
  clear hb3
  cases hlong : longF k k'
  rotate_left
  · clear x6
    clear x7
    go_wp2_with fail
    ((with_reducible refine (CW.out.of hG hb).mono ?_); rintro e w4 ⟨rfl, hb4⟩)
    replace hb := bto hb hb4
    clear hb4
    go_wp2
    go_ret
    exact ⟨rfl, hb⟩
  obtain ⟨h2, h3⟩ := longF_f hlong
  clear hlong
  by_cases gp : 6 < p ∧ p ≤ 12
  · have e1 : decide (6 < p) = true := decide_eq_true gp.1
    have e2 : decide (p ≤ 12) = true := decide_eq_true gp.2
    clear gp
    clear x6
    clear x7
    go_wp2_with fail
    ((with_reducible refine (CW.out.of hG hb).mono ?_); rintro e w4 ⟨rfl, hb4⟩)
    replace hb := bto hb hb4
    clear hb4
    go_wp2
    go_ret
    exact ⟨rfl, hb⟩
  have HP : Hid (PL w A ps n) := HGd.out.pl HI.out
  have hV : payE ps = 0 → 0 < fv l l' → ValAt ps (fv l l') := fun g _ => good_val HGd.out g (bd_fv h0 h1 (by decide)) (by decide)
  have hW : payE ps = 0 → 0 < fv k k' → ValAt ps (fv k k') := fun g _ => good_val HGd.out g (bd_fv h2 h3 (by decide)) (by decide)
  have HVV := Lib.hid hV
  have HWW := Lib.hid hW
  have h8 : payE ps = 0 → n ≤ 8 := fun h0 => by
    obtain ⟨-, h2, -⟩ := payE_ok h0
    have := HGd.out.sz; have := HGd.out.len; omega
  obtain ⟨z, c1, c2, -⟩ := both_bnd (M := 13) w hG A c p HP.out h8 (fun h => HGd.out.span h (h8 h)) (by decide) (by decide) (fun t ht => ⟨val_lt_of (HGd.out.am t ht), Nat.le_trans (HGd.out.am t ht) (by decide)⟩)
  have c3 : RetB w 34 #[.slice A n c, (Value.agg #[Value.string ⟨List.toArray l⟩, Value.string ⟨List.toArray l'⟩]), (Value.agg #[Value.string ⟨List.toArray k⟩, Value.string ⟨List.toArray k'⟩])] (.int .i64 (verE ps l l' k k')) := fun w' hb => mwVerify A ps n c l l' k k' w' (hG.below hb) (HP.out.below hb) (by omega) (by omega) (by omega) (by omega) HVV.out HWW.out
  have c4 : RetB w 35 #[.slice A n c, (Value.agg #[Value.string ⟨List.toArray l⟩, Value.string ⟨List.toArray l'⟩]), (Value.agg #[Value.string ⟨List.toArray k⟩, Value.string ⟨List.toArray k'⟩])] (.int .i64 (verE ps l l' k k')) := fun w' hb => mrVerify A ps n c l l' k k' w' (hG.below hb) (HP.out.below hb) (by omega) (by omega) (by omega) (by omega) HVV.out HWW.out
  obtain ⟨va, vb, vc, vd, vx, hv⟩ := bndV_form ps p z
  rw [hv] at c1 c2
  have C1 := Lib.hid c1
  have C2 := Lib.hid c2
  have C3 := Lib.hid c3
  have C4 := Lib.hid c4
  generalize verE ps l l' k k' = E at *
  clear c1 c2 c3 c4 hv hV hW HVV HWW h0 h1 h2 h3 h8 HGd HP HI
  by_cases g6 : 6 < p
  · have e1 : decide (6 < p) = true := decide_eq_true g6
    have e2 : decide (p ≤ 12) = false := decide_eq_false (by omega)
    clear gp g6
    go_wp2_with fail
    ((with_reducible refine (C1.out.of hG hb).mono ?_); rintro e w4 ⟨rfl, hb4⟩)
    replace x6 := x6.below hb4
    replace x7 := x7.below hb4
    replace hb := bto hb hb4
    clear hb4
    have x9 := FBox.new w4 (.string ⟨va.toArray⟩) (.string ⟨vb.toArray⟩) 30
    have hbA := below_alloc w4 (.cells #[.string ⟨va.toArray⟩, .string ⟨vb.toArray⟩] 30)
    replace x6 := x6.below hbA
    replace x7 := x7.below hbA
    replace hb := bto hb hbA
    clear hbA
    have x10 := FBox.new (w4.alloc (.cells #[.string ⟨va.toArray⟩, .string ⟨vb.toArray⟩] 30)) (.string ⟨vc.toArray⟩) (.string ⟨vd.toArray⟩) 30
    have hbA := below_alloc (w4.alloc (.cells #[.string ⟨va.toArray⟩, .string ⟨vb.toArray⟩] 30)) (.cells #[.string ⟨vc.toArray⟩, .string ⟨vd.toArray⟩] 30)
    replace x6 := x6.below hbA
    replace x7 := x7.below hbA
    replace x9 := x9.below hbA
    replace hb := bto hb hbA
    clear hbA
    simp only [World.size_alloc] at x6 x7 x9 x10
    go_wp2_with fail
    ((with_reducible refine (C2.out.of hG hb).mono ?_); rintro e w5 ⟨rfl, hb5⟩)
    replace x6 := x6.below hb5
    replace x7 := x7.below hb5
    replace x9 := x9.below hb5
    replace x10 := x10.below hb5
    replace hb := bto hb hb5
    clear hb5
    have x12 := FBox.new w5 (.string ⟨va.toArray⟩) (.string ⟨vb.toArray⟩) 30
    have hbA := below_alloc w5 (.cells #[.string ⟨va.toArray⟩, .string ⟨vb.toArray⟩] 30)
    replace x6 := x6.below hbA
    replace x7 := x7.below hbA
    replace x9 := x9.below hbA
    replace x10 := x10.below hbA
    replace hb := bto hb hbA
    clear hbA
    have x13 := FBox.new (w5.alloc (.cells #[.string ⟨va.toArray⟩, .string ⟨vb.toArray⟩] 30)) (.string ⟨vc.toArray⟩) (.string ⟨vd.toArray⟩) 30
    have hbA := below_alloc (w5.alloc (.cells #[.string ⟨va.toArray⟩, .string ⟨vb.toArray⟩] 30)) (.cells #[.string ⟨vc.toArray⟩, .string ⟨vd.toArray⟩] 30)
    replace x6 := x6.below hbA
    replace x7 := x7.below hbA
    replace x9 := x9.below hbA
    replace x10 := x10.below hbA
    replace x12 := x12.below hbA
    replace hb := bto hb hbA
    clear hbA
    simp only [World.size_alloc] at x6 x7 x9 x10 x12 x13
    go_wp2_with fail
    refine wp_region_kept (by kernel_rfl) (by kernel_rfl) ?_
    refine kept_val _ (fun _ => rfl) (fun ρ w hw => by have q0 := (x9.below hw).c0; have q1 := (x9.below hw).c1; go_simp; first | done | with_reducible rfl) ?_
    simp only [Act.put, List.setIfInBounds_toArray, List.set_cons_zero, List.set_cons_succ, Nat.reduceAdd]
    refine kept_val _ (fun _ => rfl) (fun ρ w hw => by have q0 := (x12.below hw).c0; have q1 := (x12.below hw).c1; go_simp; first | done | with_reducible rfl) ?_
    simp only [Act.put, List.setIfInBounds_toArray, List.set_cons_zero, List.set_cons_succ, Nat.reduceAdd]
    refine kept_val _ (fun _ => rfl) (fun ρ w hw => by go_simp; first | done | with_reducible rfl) ?_
    simp only [Act.put, List.setIfInBounds_toArray, List.set_cons_zero, List.set_cons_succ, Nat.reduceAdd]
    refine kept_val _ (fun _ => rfl) (fun ρ w hw => by go_simp; first | done | with_reducible rfl) ?_
    simp only [Act.put, List.setIfInBounds_toArray, List.set_cons_zero, List.set_cons_succ, Nat.reduceAdd]
    refine kept_val _ (fun _ => rfl) (fun ρ w hw => by have q0 := (x10.below hw).c0; have q1 := (x10.below hw).c1; go_simp; first | done | with_reducible rfl) ?_
    simp only [Act.put, List.setIfInBounds_toArray, List.set_cons_zero, List.set_cons_succ, Nat.reduceAdd]
    refine kept_val _ (fun _ => rfl) (fun ρ w hw => by have q0 := (x13.below hw).c0; have q1 := (x13.below hw).c1; go_simp; first | done | with_reducible rfl) ?_
    simp only [Act.put, List.setIfInBounds_toArray, List.set_cons_zero, List.set_cons_succ, Nat.reduceAdd]
    refine kept_val _ (fun _ => rfl) (fun ρ w hw => by go_simp; first | done | with_reducible rfl) ?_
    simp only [Act.put, List.setIfInBounds_toArray, List.set_cons_zero, List.set_cons_succ, Nat.reduceAdd]
    refine kept_val _ (fun _ => rfl) (fun ρ w hw => by go_simp; first | done | with_reducible rfl) ?_
    simp only [Act.put, List.setIfInBounds_toArray, List.set_cons_zero, List.set_cons_succ, Nat.reduceAdd]
    refine kept_val _ (fun _ => rfl) (fun ρ w hw => by go_simp; first | done | with_reducible rfl) ?_
    simp only [Act.put, List.setIfInBounds_toArray, List.set_cons_zero, List.set_cons_succ, Nat.reduceAdd]
    refine kept_val _ (fun _ => rfl) (fun ρ w hw => by go_simp; first | done | with_reducible rfl) ?_
    simp only [Act.put, List.setIfInBounds_toArray, List.set_cons_zero, List.set_cons_succ, Nat.reduceAdd]
    refine kept_val _ (fun _ => rfl) (fun ρ w hw => by go_simp; first | done | with_reducible rfl) ?_
    simp only [Act.put, List.setIfInBounds_toArray, List.set_cons_zero, List.set_cons_succ, Nat.reduceAdd]
    refine kept_val _ (fun _ => rfl) (fun ρ w hw => by go_simp; first | done | with_reducible rfl) ?_
    simp only [Act.put, List.setIfInBounds_toArray, List.set_cons_zero, List.set_cons_succ, Nat.reduceAdd]
    refine kept_val _ (fun _ => rfl) (fun ρ w hw => by go_simp; first | done | with_reducible rfl) ?_
    simp only [Act.put, List.setIfInBounds_toArray, List.set_cons_zero, List.set_cons_succ, Nat.reduceAdd]
    refine kept_val _ (fun _ => rfl) (fun ρ w hw => by go_simp; first | done | with_reducible rfl) ?_
    simp only [Act.put, List.setIfInBounds_toArray, List.set_cons_zero, List.set_cons_succ, Nat.reduceAdd]
    refine kept_val _ (fun _ => rfl) (fun ρ w hw => by go_simp; first | done | with_reducible rfl) ?_
    simp only [Act.put, List.setIfInBounds_toArray, List.set_cons_zero, List.set_cons_succ, Nat.reduceAdd]
    refine kept_val _ (fun _ => rfl) (fun ρ w hw => by have q0 := (x6.below hw).c0; have q1 := (x6.below hw).c1; go_simp; first | done | with_reducible rfl) ?_
    simp only [Act.put, List.setIfInBounds_toArray, List.set_cons_zero, List.set_cons_succ, Nat.reduceAdd]
    refine kept_val _ (fun _ => rfl) (fun ρ w hw => by have q0 := (x7.below hw).c0; have q1 := (x7.below hw).c1; go_simp; first | done | with_reducible rfl) ?_
    simp only [Act.put, List.setIfInBounds_toArray, List.set_cons_zero, List.set_cons_succ, Nat.reduceAdd]
    refine kept_call _ _ _ (fun _ => rfl) (fun ρ w hw => by go_simp; first | done | with_reducible rfl) (fun w hw => C3.out.of hG (bto hb hw)) ?_
    simp only [Act.put, List.setIfInBounds_toArray, List.set_cons_zero, List.set_cons_succ, Nat.reduceAdd]
    refine kept_val _ (fun _ => rfl) (fun ρ w hw => by go_simp; first | done | with_reducible rfl) ?_
    simp only [Act.put, List.setIfInBounds_toArray, List.set_cons_zero, List.set_cons_succ, Nat.reduceAdd]
    refine kept_val _ (fun _ => rfl) (fun ρ w hw => by have q0 := (x6.below hw).c0; have q1 := (x6.below hw).c1; go_simp; first | done | with_reducible rfl) ?_
    simp only [Act.put, List.setIfInBounds_toArray, List.set_cons_zero, List.set_cons_succ, Nat.reduceAdd]
    refine kept_val _ (fun _ => rfl) (fun ρ w hw => by have q0 := (x7.below hw).c0; have q1 := (x7.below hw).c1; go_simp; first | done | with_reducible rfl) ?_
    simp only [Act.put, List.setIfInBounds_toArray, List.set_cons_zero, List.set_cons_succ, Nat.reduceAdd]
    refine kept_call _ _ _ (fun _ => rfl) (fun ρ w hw => by go_simp; first | done | with_reducible rfl) (fun w hw => C4.out.of hG (bto hb hw)) ?_
    simp only [Act.put, List.setIfInBounds_toArray, List.set_cons_zero, List.set_cons_succ, Nat.reduceAdd]
    refine kept_val _ (fun _ => rfl) (fun ρ w hw => by go_simp; first | done | with_reducible rfl) ?_
    simp only [Act.put, List.setIfInBounds_toArray, List.set_cons_zero, List.set_cons_succ, Nat.reduceAdd]
    refine kept_val _ (fun _ => rfl) (fun ρ w hw => by go_simp; first | done | with_reducible rfl) ?_
    simp only [Act.put, List.setIfInBounds_toArray, List.set_cons_zero, List.set_cons_succ, Nat.reduceAdd]
    refine kept_val _ (fun _ => rfl) (fun ρ w hw => by go_simp; first | done | with_reducible rfl) ?_
    simp only [Act.put, List.setIfInBounds_toArray, List.set_cons_zero, List.set_cons_succ, Nat.reduceAdd]
    refine kept_call _ _ _ (fun _ => rfl) (fun ρ w hw => by go_simp; first | done | with_reducible rfl) (fun w hw => CW.out.of hG (bto hb hw)) ?_
    simp only [Act.put, List.setIfInBounds_toArray, List.set_cons_zero, List.set_cons_succ, Nat.reduceAdd]
    refine kept_val _ (fun _ => rfl) (fun ρ w hw => by go_simp; first | done | with_reducible rfl) ?_
    simp only [Act.put, List.setIfInBounds_toArray, List.set_cons_zero, List.set_cons_succ, Nat.reduceAdd]
    refine kept_val _ (fun _ => rfl) (fun ρ w hw => by go_simp; first | done | with_reducible rfl) ?_
    simp only [Act.put, List.setIfInBounds_toArray, List.set_cons_zero, List.set_cons_succ, Nat.reduceAdd]
    refine kept_end (fun ρ w6 hF => ?_)
    replace x6 := x6.below hF.below
    replace x7 := x7.below hF.below
    replace x9 := x9.below hF.below
    replace x10 := x10.below hF.below
    replace x12 := x12.below hF.below
    replace x13 := x13.below hF.below
    replace hb := bto hb hF.below
    clear hF
    clear x6
    clear x7
    clear x9
    clear x10
    clear x12
    clear x13
    go_wp2
    go_ret
    exact ⟨rfl, hb⟩
  · have e1 : decide (6 < p) = false := decide_eq_false g6
    clear gp g6
    go_wp2_with fail
    ((with_reducible refine (C1.out.of hG hb).mono ?_); rintro e w4 ⟨rfl, hb4⟩)
    replace x6 := x6.below hb4
    replace x7 := x7.below hb4
    replace hb := bto hb hb4
    clear hb4
    have x9 := FBox.new w4 (.string ⟨va.toArray⟩) (.string ⟨vb.toArray⟩) 30
    have hbA := below_alloc w4 (.cells #[.string ⟨va.toArray⟩, .string ⟨vb.toArray⟩] 30)
    replace x6 := x6.below hbA
    replace x7 := x7.below hbA
    replace hb := bto hb hbA
    clear hbA
    have x10 := FBox.new (w4.alloc (.cells #[.string ⟨va.toArray⟩, .string ⟨vb.toArray⟩] 30)) (.string ⟨vc.toArray⟩) (.string ⟨vd.toArray⟩) 30
    have hbA := below_alloc (w4.alloc (.cells #[.string ⟨va.toArray⟩, .string ⟨vb.toArray⟩] 30)) (.cells #[.string ⟨vc.toArray⟩, .string ⟨vd.toArray⟩] 30)
    replace x6 := x6.below hbA
    replace x7 := x7.below hbA
    replace x9 := x9.below hbA
    replace hb := bto hb hbA
    clear hbA
    simp only [World.size_alloc] at x6 x7 x9 x10
    go_wp2_with fail
    ((with_reducible refine (C2.out.of hG hb).mono ?_); rintro e w5 ⟨rfl, hb5⟩)
    replace x6 := x6.below hb5
    replace x7 := x7.below hb5
    replace x9 := x9.below hb5
    replace x10 := x10.below hb5
    replace hb := bto hb hb5
    clear hb5
    have x12 := FBox.new w5 (.string ⟨va.toArray⟩) (.string ⟨vb.toArray⟩) 30
    have hbA := below_alloc w5 (.cells #[.string ⟨va.toArray⟩, .string ⟨vb.toArray⟩] 30)
    replace x6 := x6.below hbA
    replace x7 := x7.below hbA
    replace x9 := x9.below hbA
    replace x10 := x10.below hbA
    replace hb := bto hb hbA
    clear hbA
    have x13 := FBox.new (w5.alloc (.cells #[.string ⟨va.toArray⟩, .string ⟨vb.toArray⟩] 30)) (.string ⟨vc.toArray⟩) (.string ⟨vd.toArray⟩) 30
    have hbA := below_alloc (w5.alloc (.cells #[.string ⟨va.toArray⟩, .string ⟨vb.toArray⟩] 30)) (.cells #[.string ⟨vc.toArray⟩, .string ⟨vd.toArray⟩] 30)
    replace x6 := x6.below hbA
    replace x7 := x7.below hbA
    replace x9 := x9.below hbA
    replace x10 := x10.below hbA
    replace x12 := x12.below hbA
    replace hb := bto hb hbA
    clear hbA
    simp only [World.size_alloc] at x6 x7 x9 x10 x12 x13
    go_wp2_with fail
    refine wp_region_kept (by kernel_rfl) (by kernel_rfl) ?_
    refine kept_val _ (fun _ => rfl) (fun ρ w hw => by have q0 := (x9.below hw).c0; have q1 := (x9.below hw).c1; go_simp; first | done | with_reducible rfl) ?_
    simp only [Act.put, List.setIfInBounds_toArray, List.set_cons_zero, List.set_cons_succ, Nat.reduceAdd]
    refine kept_val _ (fun _ => rfl) (fun ρ w hw => by have q0 := (x12.below hw).c0; have q1 := (x12.below hw).c1; go_simp; first | done | with_reducible rfl) ?_
    simp only [Act.put, List.setIfInBounds_toArray, List.set_cons_zero, List.set_cons_succ, Nat.reduceAdd]
    refine kept_val _ (fun _ => rfl) (fun ρ w hw => by go_simp; first | done | with_reducible rfl) ?_
    simp only [Act.put, List.setIfInBounds_toArray, List.set_cons_zero, List.set_cons_succ, Nat.reduceAdd]
    refine kept_val _ (fun _ => rfl) (fun ρ w hw => by go_simp; first | done | with_reducible rfl) ?_
    simp only [Act.put, List.setIfInBounds_toArray, List.set_cons_zero, List.set_cons_succ, Nat.reduceAdd]
    refine kept_val _ (fun _ => rfl) (fun ρ w hw => by have q0 := (x10.below hw).c0; have q1 := (x10.below hw).c1; go_simp; first | done | with_reducible rfl) ?_
    simp only [Act.put, List.setIfInBounds_toArray, List.set_cons_zero, List.set_cons_succ, Nat.reduceAdd]
    refine kept_val _ (fun _ => rfl) (fun ρ w hw => by have q0 := (x13.below hw).c0; have q1 := (x13.below hw).c1; go_simp; first | done | with_reducible rfl) ?_
    simp only [Act.put, List.setIfInBounds_toArray, List.set_cons_zero, List.set_cons_succ, Nat.reduceAdd]
    refine kept_val _ (fun _ => rfl) (fun ρ w hw => by go_simp; first | done | with_reducible rfl) ?_
    simp only [Act.put, List.setIfInBounds_toArray, List.set_cons_zero, List.set_cons_succ, Nat.reduceAdd]
    refine kept_val _ (fun _ => rfl) (fun ρ w hw => by go_simp; first | done | with_reducible rfl) ?_
    simp only [Act.put, List.setIfInBounds_toArray, List.set_cons_zero, List.set_cons_succ, Nat.reduceAdd]
    refine kept_val _ (fun _ => rfl) (fun ρ w hw => by go_simp; first | done | with_reducible rfl) ?_
    simp only [Act.put, List.setIfInBounds_toArray, List.set_cons_zero, List.set_cons_succ, Nat.reduceAdd]
    refine kept_val _ (fun _ => rfl) (fun ρ w hw => by go_simp; first | done | with_reducible rfl) ?_
    simp only [Act.put, List.setIfInBounds_toArray, List.set_cons_zero, List.set_cons_succ, Nat.reduceAdd]
    refine kept_val _ (fun _ => rfl) (fun ρ w hw => by go_simp; first | done | with_reducible rfl) ?_
    simp only [Act.put, List.setIfInBounds_toArray, List.set_cons_zero, List.set_cons_succ, Nat.reduceAdd]
    refine kept_val _ (fun _ => rfl) (fun ρ w hw => by go_simp; first | done | with_reducible rfl) ?_
    simp only [Act.put, List.setIfInBounds_toArray, List.set_cons_zero, List.set_cons_succ, Nat.reduceAdd]
    refine kept_val _ (fun _ => rfl) (fun ρ w hw => by go_simp; first | done | with_reducible rfl) ?_
    simp only [Act.put, List.setIfInBounds_toArray, List.set_cons_zero, List.set_cons_succ, Nat.reduceAdd]
    refine kept_val _ (fun _ => rfl) (fun ρ w hw => by go_simp; first | done | with_reducible rfl) ?_
    simp only [Act.put, List.setIfInBounds_toArray, List.set_cons_zero, List.set_cons_succ, Nat.reduceAdd]
    refine kept_val _ (fun _ => rfl) (fun ρ w hw => by go_simp; first | done | with_reducible rfl) ?_
    simp only [Act.put, List.setIfInBounds_toArray, List.set_cons_zero, List.set_cons_succ, Nat.reduceAdd]
    refine kept_val _ (fun _ => rfl) (fun ρ w hw => by have q0 := (x6.below hw).c0; have q1 := (x6.below hw).c1; go_simp; first | done | with_reducible rfl) ?_
    simp only [Act.put, List.setIfInBounds_toArray, List.set_cons_zero, List.set_cons_succ, Nat.reduceAdd]
    refine kept_val _ (fun _ => rfl) (fun ρ w hw => by have q0 := (x7.below hw).c0; have q1 := (x7.below hw).c1; go_simp; first | done | with_reducible rfl) ?_
    simp only [Act.put, List.setIfInBounds_toArray, List.set_cons_zero, List.set_cons_succ, Nat.reduceAdd]
    refine kept_call _ _ _ (fun _ => rfl) (fun ρ w hw => by go_simp; first | done | with_reducible rfl) (fun w hw => C3.out.of hG (bto hb hw)) ?_
    simp only [Act.put, List.setIfInBounds_toArray, List.set_cons_zero, List.set_cons_succ, Nat.reduceAdd]
    refine kept_val _ (fun _ => rfl) (fun ρ w hw => by go_simp; first | done | with_reducible rfl) ?_
    simp only [Act.put, List.setIfInBounds_toArray, List.set_cons_zero, List.set_cons_succ, Nat.reduceAdd]
    refine kept_val _ (fun _ => rfl) (fun ρ w hw => by have q0 := (x6.below hw).c0; have q1 := (x6.below hw).c1; go_simp; first | done | with_reducible rfl) ?_
    simp only [Act.put, List.setIfInBounds_toArray, List.set_cons_zero, List.set_cons_succ, Nat.reduceAdd]
    refine kept_val _ (fun _ => rfl) (fun ρ w hw => by have q0 := (x7.below hw).c0; have q1 := (x7.below hw).c1; go_simp; first | done | with_reducible rfl) ?_
    simp only [Act.put, List.setIfInBounds_toArray, List.set_cons_zero, List.set_cons_succ, Nat.reduceAdd]
    refine kept_call _ _ _ (fun _ => rfl) (fun ρ w hw => by go_simp; first | done | with_reducible rfl) (fun w hw => C4.out.of hG (bto hb hw)) ?_
    simp only [Act.put, List.setIfInBounds_toArray, List.set_cons_zero, List.set_cons_succ, Nat.reduceAdd]
    refine kept_val _ (fun _ => rfl) (fun ρ w hw => by go_simp; first | done | with_reducible rfl) ?_
    simp only [Act.put, List.setIfInBounds_toArray, List.set_cons_zero, List.set_cons_succ, Nat.reduceAdd]
    refine kept_val _ (fun _ => rfl) (fun ρ w hw => by go_simp; first | done | with_reducible rfl) ?_
    simp only [Act.put, List.setIfInBounds_toArray, List.set_cons_zero, List.set_cons_succ, Nat.reduceAdd]
    refine kept_val _ (fun _ => rfl) (fun ρ w hw => by go_simp; first | done | with_reducible rfl) ?_
    simp only [Act.put, List.setIfInBounds_toArray, List.set_cons_zero, List.set_cons_succ, Nat.reduceAdd]
    refine kept_call _ _ _ (fun _ => rfl) (fun ρ w hw => by go_simp; first | done | with_reducible rfl) (fun w hw => CW.out.of hG (bto hb hw)) ?_
    simp only [Act.put, List.setIfInBounds_toArray, List.set_cons_zero, List.set_cons_succ, Nat.reduceAdd]
    refine kept_val _ (fun _ => rfl) (fun ρ w hw => by go_simp; first | done | with_reducible rfl) ?_
    simp only [Act.put, List.setIfInBounds_toArray, List.set_cons_zero, List.set_cons_succ, Nat.reduceAdd]
    refine kept_val _ (fun _ => rfl) (fun ρ w hw => by go_simp; first | done | with_reducible rfl) ?_
    simp only [Act.put, List.setIfInBounds_toArray, List.set_cons_zero, List.set_cons_succ, Nat.reduceAdd]
    refine kept_end (fun ρ w6 hF => ?_)
    replace x6 := x6.below hF.below
    replace x7 := x7.below hF.below
    replace x9 := x9.below hF.below
    replace x10 := x10.below hF.below
    replace x12 := x12.below hF.below
    replace x13 := x13.below hF.below
    replace hb := bto hb hF.below
    clear hF
    clear x6
    clear x7
    clear x9
    clear x10
    clear x12
    clear x13
    go_wp2
    go_ret
    exact ⟨rfl, hb⟩
end Go.Proofs.YtolbojchdlojnaaGreatDoor
