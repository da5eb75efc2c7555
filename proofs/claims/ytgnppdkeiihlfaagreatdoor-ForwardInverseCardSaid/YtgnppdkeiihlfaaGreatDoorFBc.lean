/- Bc: frace fracf fracg frach fraci qlaw -/
import Derived.Test.YtgnppdkeiihlfaaGreatDoorFBb
import Derived.Laws.EntriesVeiled
import Derived.Laws.Concat
/- Package fraction: operations, apply. Printed by wip/tools/gen_apply.py. -/
namespace Go.Proofs.YtgnppdkeiihlfaaGreatDoor
open Go.RowKit Num
set_option maxHeartbeats 1000000 in
set_option maxRecDepth 100000 in
theorem operations_any (w : World) :
    Calls Tryz.prog 101 #[] w fun e w' => e = .returned (.agg #[.func (.func 164) #[] #[.pointer (some ⟨w.heap.size + 1, 0, none⟩)], .func (.func 166) #[] #[.pointer (some ⟨w.heap.size + 1, 0, none⟩)], .func (.func 168) #[] #[.pointer (some ⟨w.heap.size + 1, 0, none⟩)], .func (.func 169) #[] #[.pointer (some ⟨w.heap.size + 1, 0, none⟩)]]) ∧
      w.heap.size + 1 < w'.heap.size ∧ w'.cell? ⟨w.heap.size + 1, 0, none⟩ = some (.func (.func 163) #[] #[]) ∧ Below w.heap.size w w' := by
  go_enter Tryz.func101, Tryz.ntmps101
  go_wp2_with fail
  refine bodyPost_ret (v := .agg #[.func (.func 164) #[] #[.pointer (some ⟨w.heap.size + 1, 0, none⟩)], .func (.func 166) #[] #[.pointer (some ⟨w.heap.size + 1, 0, none⟩)], .func (.func 168) #[] #[.pointer (some ⟨w.heap.size + 1, 0, none⟩)], .func (.func 169) #[] #[.pointer (some ⟨w.heap.size + 1, 0, none⟩)]]) (by simp [results, Tryz.results101, go_sem]) rfl ?_
  exact ⟨rfl, by simp, by simp [go_sem], bto (below_alloc _ _) (below_alloc _ _)⟩
theorem canon_sum_len {a b c d : List UInt8} {i j : Nat} (ha : a.length ≤ i) (hb : b.length ≤ j) (hc : c.length ≤ i) (hd : d.length ≤ j) : (canon (val a * val b + val c * val d)).length ≤ i + j + 2 ∧ (canon (val a * val b - val c * val d)).length ≤ i + j + 2 := by
  have h1 := mul_lt10 (val_lt_of ha) (val_lt_of hb)
  have h2 := mul_lt10 (val_lt_of hc) (val_lt_of hd)
  have h3 := two_lt10 (i + j)
  rw [← Int.natAbs_mul] at h1 h2
  exact ⟨canon_len_le _ (i + j + 1) (by omega), canon_len_le _ (i + j + 1) (by omega)⟩
set_option maxHeartbeats 1000000 in
set_option maxRecDepth 100000 in
theorem apply1_any (l l' k k' : List UInt8) (m : Nat) (w : World) (hl : l.length ≤ 100000) (hl' : l'.length ≤ 100000) (hk : k.length ≤ 100000) (hk' : k'.length ≤ 100000) (hG : Glob w) (hm : m < w.heap.size) (hc : w.cell? ⟨m, 0, none⟩ = some (.func (.func 163) #[] #[])) :
    Calls Tryz.prog 100 #[.func (.func 164) #[] #[.pointer (some ⟨m, 0, none⟩)], (Value.agg #[Value.string ⟨List.toArray l⟩, Value.string ⟨List.toArray l'⟩]), (Value.agg #[Value.string ⟨List.toArray k⟩, Value.string ⟨List.toArray k'⟩])] w fun e w' => e = .returned (Value.agg #[Value.string ⟨List.toArray (fN (fv l l' + fv k k'))⟩, Value.string ⟨List.toArray (fD (fv l l' + fv k k'))⟩]) ∧ Below w.heap.size w w' := by
  have hpl := pd_len hl' (show 1 ≤ 100000 by decide)
  have hpk := pd_len hk' (show 1 ≤ 100000 by decide)
  have hv : Rat.divInt ((val l * val (pd k') + val k * val (pd l'))) ((val (pd l') * val (pd k'))) = fv l l' + fv k k' := by
    unfold fv; rw [Rat.divInt_add_divInt _ _ (den1_ne _) (den1_ne _)]; rw [val_pd, val_pd]
  have hnl : (canon ((val l * val (pd k') + val k * val (pd l')))).length ≤ 1000000 := by
    have hl' := hpl; have hk' := hpk
    exact Nat.le_trans (canon_sum_len hl hk' hk hl').1 (by decide)
  have hdl : (canon ((val (pd l') * val (pd k')))).length ≤ 1000000 := Nat.le_trans (canon_mul_len _ _) (by omega)
  have hne : val (canon ((val (pd l') * val (pd k')))) ≠ 0 := by rw [val_canon, val_pd, val_pd]; exact Int.mul_ne_zero (den1_ne _) (den1_ne _)
  have hmd : ∀ w : World, Glob w → _ := fun w hG => made_any (canon ((val l * val (pd k') + val k * val (pd l')))) (canon ((val (pd l') * val (pd k')))) w hnl hdl hG hne
  simp only [val_canon, hv] at hmd
  have hop : ∀ w : World, Glob w → _ → _ → _ := fun w hG hm hc => op1_any l (pd l') k (pd k') m w (Nat.le_trans hl (by decide)) (Nat.le_trans hpl (by decide)) (Nat.le_trans hk (by decide)) (Nat.le_trans hpk (by decide)) hG hm hc
  obtain ⟨q, hq⟩ : ∃ q, q = fv l l' + fv k k' := ⟨_, rfl⟩
  obtain ⟨N, hN⟩ : ∃ N, N = canon ((val l * val (pd k') + val k * val (pd l'))) := ⟨_, rfl⟩
  obtain ⟨D, hD⟩ : ∃ D, D = canon ((val (pd l') * val (pd k'))) := ⟨_, rfl⟩
  simp only [← hq, ← hN, ← hD] at hmd hop ⊢
  have HM := Lib.hid hmd
  have HO := Lib.hid hop
  have HC := Lib.hid hc
  clear hq hN hD hmd hop hv hnl hdl hne hc
  go_enter Tryz.func100, Tryz.ntmps100
  go_wp2_with fail
  ((with_reducible refine (parts_any l l' _ (Nat.le_trans hl' (by decide))).mono ?_); rintro e w1 ⟨rfl, hb1⟩)
  have hx0 := ((FBox.new (w.alloc (.cells #[.string ⟨l.toArray⟩, .string ⟨l'.toArray⟩] 25)) (.string ⟨k.toArray⟩) (.string ⟨k'.toArray⟩) 25).below (below_alloc _ (.cells #[.string ⟨#[]⟩, .string ⟨#[]⟩] 25))).below hb1
  have hx := (FBox.new ((w.alloc (.cells #[.string ⟨l.toArray⟩, .string ⟨l'.toArray⟩] 25)).alloc (.cells #[.string ⟨k.toArray⟩, .string ⟨k'.toArray⟩] 25)) (.string ⟨#[]⟩) (.string ⟨#[]⟩) 25).below hb1
  have hb1 := bto (bto (bto (below_alloc w (.cells #[.string ⟨l.toArray⟩, .string ⟨l'.toArray⟩] 25)) (below_alloc _ (.cells #[.string ⟨k.toArray⟩, .string ⟨k'.toArray⟩] 25))) (below_alloc _ (.cells #[.string ⟨#[]⟩, .string ⟨#[]⟩] 25))) hb1
  rw [World.size_alloc] at hx0
  rw [World.size_alloc, World.size_alloc] at hx
  have e0 := hx0.c0
  have e1 := hx0.c1
  go_wp2_with fail
  ((with_reducible refine (parts_any k k' _ (Nat.le_trans hk' (by decide))).mono ?_); rintro e w2 ⟨rfl, hb2⟩)
  have hx := hx.below hb2
  have hb2 := bto hb1 hb2
  clear e0 e1 hx0
  go_wp2_with fail
  ((with_reducible refine (HO.out _ (by exact hG.below hb2) (by exact Nat.lt_of_lt_of_le hm hb2.size) (by exact (hb2.cell (p := ⟨m, 0, none⟩) hm).trans HC.out)).mono ?_); rintro e w3 ⟨rfl, hb3⟩)
  have hx := hx.below hb3
  have hb3 := bto hb2 hb3
  go_wp2_with fail
  ((with_reducible refine (HM.out _ (by exact hG.below hb3)).mono ?_); rintro e w4 ⟨rfl, hb4⟩)
  have hx := hx.below hb4
  have hb4 := bto hb3 hb4
  have c0 := hx.c0
  have c1 := hx.c1
  have f0 := hx.f0
  have f1 := hx.f1
  go_wp2_with fail
  have hy := hx.set (.string ⟨(fN q).toArray⟩) (.string ⟨(fD q).toArray⟩)
  have d0 := hy.c0
  have d1 := hy.c1
  refine bodyPost_ret (v := (Value.agg #[Value.string ⟨List.toArray (fN q)⟩, Value.string ⟨List.toArray (fD q)⟩])) (by simp [results, Tryz.results100, go_sem, d0, d1]) rfl ?_
  exact ⟨rfl, below_set2 hb4 (by omega) _ _⟩
set_option maxHeartbeats 1000000 in
set_option maxRecDepth 100000 in
theorem apply2_any (l l' k k' : List UInt8) (m : Nat) (w : World) (hl : l.length ≤ 100000) (hl' : l'.length ≤ 100000) (hk : k.length ≤ 100000) (hk' : k'.length ≤ 100000) (hG : Glob w) (hm : m < w.heap.size) (hc : w.cell? ⟨m, 0, none⟩ = some (.func (.func 163) #[] #[])) :
    Calls Tryz.prog 100 #[.func (.func 166) #[] #[.pointer (some ⟨m, 0, none⟩)], (Value.agg #[Value.string ⟨List.toArray l⟩, Value.string ⟨List.toArray l'⟩]), (Value.agg #[Value.string ⟨List.toArray k⟩, Value.string ⟨List.toArray k'⟩])] w fun e w' => e = .returned (Value.agg #[Value.string ⟨List.toArray (fN (fv l l' - fv k k'))⟩, Value.string ⟨List.toArray (fD (fv l l' - fv k k'))⟩]) ∧ Below w.heap.size w w' := by
  have hpl := pd_len hl' (show 1 ≤ 100000 by decide)
  have hpk := pd_len hk' (show 1 ≤ 100000 by decide)
  have hv : Rat.divInt ((val l * val (pd k') - val k * val (pd l'))) ((val (pd l') * val (pd k'))) = fv l l' - fv k k' := by
    unfold fv; rw [Rat.divInt_sub_divInt _ _ (den1_ne _) (den1_ne _)]; rw [val_pd, val_pd]
  have hnl : (canon ((val l * val (pd k') - val k * val (pd l')))).length ≤ 1000000 := by
    have hl' := hpl; have hk' := hpk
    exact Nat.le_trans (canon_sum_len hl hk' hk hl').2 (by decide)
  have hdl : (canon ((val (pd l') * val (pd k')))).length ≤ 1000000 := Nat.le_trans (canon_mul_len _ _) (by omega)
  have hne : val (canon ((val (pd l') * val (pd k')))) ≠ 0 := by rw [val_canon, val_pd, val_pd]; exact Int.mul_ne_zero (den1_ne _) (den1_ne _)
  have hmd : ∀ w : World, Glob w → _ := fun w hG => made_any (canon ((val l * val (pd k') - val k * val (pd l')))) (canon ((val (pd l') * val (pd k')))) w hnl hdl hG hne
  simp only [val_canon, hv] at hmd
  have hop : ∀ w : World, Glob w → _ → _ → _ := fun w hG hm hc => op2_any l (pd l') k (pd k') m w (Nat.le_trans hl (by decide)) (Nat.le_trans hpl (by decide)) (Nat.le_trans hk (by decide)) (Nat.le_trans hpk (by decide)) hG hm hc
  obtain ⟨q, hq⟩ : ∃ q, q = fv l l' - fv k k' := ⟨_, rfl⟩
  obtain ⟨N, hN⟩ : ∃ N, N = canon ((val l * val (pd k') - val k * val (pd l'))) := ⟨_, rfl⟩
  obtain ⟨D, hD⟩ : ∃ D, D = canon ((val (pd l') * val (pd k'))) := ⟨_, rfl⟩
  simp only [← hq, ← hN, ← hD] at hmd hop ⊢
  have HM := Lib.hid hmd
  have HO := Lib.hid hop
  have HC := Lib.hid hc
  clear hq hN hD hmd hop hv hnl hdl hne hc
  go_enter Tryz.func100, Tryz.ntmps100
  go_wp2_with fail
  ((with_reducible refine (parts_any l l' _ (Nat.le_trans hl' (by decide))).mono ?_); rintro e w1 ⟨rfl, hb1⟩)
  have hx0 := ((FBox.new (w.alloc (.cells #[.string ⟨l.toArray⟩, .string ⟨l'.toArray⟩] 25)) (.string ⟨k.toArray⟩) (.string ⟨k'.toArray⟩) 25).below (below_alloc _ (.cells #[.string ⟨#[]⟩, .string ⟨#[]⟩] 25))).below hb1
  have hx := (FBox.new ((w.alloc (.cells #[.string ⟨l.toArray⟩, .string ⟨l'.toArray⟩] 25)).alloc (.cells #[.string ⟨k.toArray⟩, .string ⟨k'.toArray⟩] 25)) (.string ⟨#[]⟩) (.string ⟨#[]⟩) 25).below hb1
  have hb1 := bto (bto (bto (below_alloc w (.cells #[.string ⟨l.toArray⟩, .string ⟨l'.toArray⟩] 25)) (below_alloc _ (.cells #[.string ⟨k.toArray⟩, .string ⟨k'.toArray⟩] 25))) (below_alloc _ (.cells #[.string ⟨#[]⟩, .string ⟨#[]⟩] 25))) hb1
  rw [World.size_alloc] at hx0
  rw [World.size_alloc, World.size_alloc] at hx
  have e0 := hx0.c0
  have e1 := hx0.c1
  go_wp2_with fail
  ((with_reducible refine (parts_any k k' _ (Nat.le_trans hk' (by decide))).mono ?_); rintro e w2 ⟨rfl, hb2⟩)
  have hx := hx.below hb2
  have hb2 := bto hb1 hb2
  clear e0 e1 hx0
  go_wp2_with fail
  ((with_reducible refine (HO.out _ (by exact hG.below hb2) (by exact Nat.lt_of_lt_of_le hm hb2.size) (by exact (hb2.cell (p := ⟨m, 0, none⟩) hm).trans HC.out)).mono ?_); rintro e w3 ⟨rfl, hb3⟩)
  have hx := hx.below hb3
  have hb3 := bto hb2 hb3
  go_wp2_with fail
  ((with_reducible refine (HM.out _ (by exact hG.below hb3)).mono ?_); rintro e w4 ⟨rfl, hb4⟩)
  have hx := hx.below hb4
  have hb4 := bto hb3 hb4
  have c0 := hx.c0
  have c1 := hx.c1
  have f0 := hx.f0
  have f1 := hx.f1
  go_wp2_with fail
  have hy := hx.set (.string ⟨(fN q).toArray⟩) (.string ⟨(fD q).toArray⟩)
  have d0 := hy.c0
  have d1 := hy.c1
  refine bodyPost_ret (v := (Value.agg #[Value.string ⟨List.toArray (fN q)⟩, Value.string ⟨List.toArray (fD q)⟩])) (by simp [results, Tryz.results100, go_sem, d0, d1]) rfl ?_
  exact ⟨rfl, below_set2 hb4 (by omega) _ _⟩
set_option maxHeartbeats 1000000 in
set_option maxRecDepth 100000 in
theorem apply3_any (l l' k k' : List UInt8) (m : Nat) (w : World) (hl : l.length ≤ 100000) (hl' : l'.length ≤ 100000) (hk : k.length ≤ 100000) (hk' : k'.length ≤ 100000) (hG : Glob w) (hm : m < w.heap.size) (hc : w.cell? ⟨m, 0, none⟩ = some (.func (.func 163) #[] #[])) :
    Calls Tryz.prog 100 #[.func (.func 168) #[] #[.pointer (some ⟨m, 0, none⟩)], (Value.agg #[Value.string ⟨List.toArray l⟩, Value.string ⟨List.toArray l'⟩]), (Value.agg #[Value.string ⟨List.toArray k⟩, Value.string ⟨List.toArray k'⟩])] w fun e w' => e = .returned (Value.agg #[Value.string ⟨List.toArray (fN (fv l l' * fv k k'))⟩, Value.string ⟨List.toArray (fD (fv l l' * fv k k'))⟩]) ∧ Below w.heap.size w w' := by
  have hpl := pd_len hl' (show 1 ≤ 100000 by decide)
  have hpk := pd_len hk' (show 1 ≤ 100000 by decide)
  have hv : Rat.divInt ((val l * val k)) ((val (pd l') * val (pd k'))) = fv l l' * fv k k' := by
    unfold fv; rw [Rat.divInt_mul_divInt]; rw [val_pd, val_pd]
  have hnl : (canon ((val l * val k))).length ≤ 1000000 := by
    have hl' := hpl; have hk' := hpk
    exact Nat.le_trans (canon_mul_len _ _) (by omega)
  have hdl : (canon ((val (pd l') * val (pd k')))).length ≤ 1000000 := Nat.le_trans (canon_mul_len _ _) (by omega)
  have hne : val (canon ((val (pd l') * val (pd k')))) ≠ 0 := by rw [val_canon, val_pd, val_pd]; exact Int.mul_ne_zero (den1_ne _) (den1_ne _)
  have hmd : ∀ w : World, Glob w → _ := fun w hG => made_any (canon ((val l * val k))) (canon ((val (pd l') * val (pd k')))) w hnl hdl hG hne
  simp only [val_canon, hv] at hmd
  have hop : ∀ w : World, Glob w → _ → _ → _ := fun w hG hm hc => op3_any l (pd l') k (pd k') m w (Nat.le_trans hl (by decide)) (Nat.le_trans hpl (by decide)) (Nat.le_trans hk (by decide)) (Nat.le_trans hpk (by decide)) hG hm hc
  obtain ⟨q, hq⟩ : ∃ q, q = fv l l' * fv k k' := ⟨_, rfl⟩
  obtain ⟨N, hN⟩ : ∃ N, N = canon ((val l * val k)) := ⟨_, rfl⟩
  obtain ⟨D, hD⟩ : ∃ D, D = canon ((val (pd l') * val (pd k'))) := ⟨_, rfl⟩
  simp only [← hq, ← hN, ← hD] at hmd hop ⊢
  have HM := Lib.hid hmd
  have HO := Lib.hid hop
  have HC := Lib.hid hc
  clear hq hN hD hmd hop hv hnl hdl hne hc
  go_enter Tryz.func100, Tryz.ntmps100
  go_wp2_with fail
  ((with_reducible refine (parts_any l l' _ (Nat.le_trans hl' (by decide))).mono ?_); rintro e w1 ⟨rfl, hb1⟩)
  have hx0 := ((FBox.new (w.alloc (.cells #[.string ⟨l.toArray⟩, .string ⟨l'.toArray⟩] 25)) (.string ⟨k.toArray⟩) (.string ⟨k'.toArray⟩) 25).below (below_alloc _ (.cells #[.string ⟨#[]⟩, .string ⟨#[]⟩] 25))).below hb1
  have hx := (FBox.new ((w.alloc (.cells #[.string ⟨l.toArray⟩, .string ⟨l'.toArray⟩] 25)).alloc (.cells #[.string ⟨k.toArray⟩, .string ⟨k'.toArray⟩] 25)) (.string ⟨#[]⟩) (.string ⟨#[]⟩) 25).below hb1
  have hb1 := bto (bto (bto (below_alloc w (.cells #[.string ⟨l.toArray⟩, .string ⟨l'.toArray⟩] 25)) (below_alloc _ (.cells #[.string ⟨k.toArray⟩, .string ⟨k'.toArray⟩] 25))) (below_alloc _ (.cells #[.string ⟨#[]⟩, .string ⟨#[]⟩] 25))) hb1
  rw [World.size_alloc] at hx0
  rw [World.size_alloc, World.size_alloc] at hx
  have e0 := hx0.c0
  have e1 := hx0.c1
  go_wp2_with fail
  ((with_reducible refine (parts_any k k' _ (Nat.le_trans hk' (by decide))).mono ?_); rintro e w2 ⟨rfl, hb2⟩)
  have hx := hx.below hb2
  have hb2 := bto hb1 hb2
  clear e0 e1 hx0
  go_wp2_with fail
  ((with_reducible refine (HO.out _ (by exact hG.below hb2) (by exact Nat.lt_of_lt_of_le hm hb2.size) (by exact (hb2.cell (p := ⟨m, 0, none⟩) hm).trans HC.out)).mono ?_); rintro e w3 ⟨rfl, hb3⟩)
  have hx := hx.below hb3
  have hb3 := bto hb2 hb3
  go_wp2_with fail
  ((with_reducible refine (HM.out _ (by exact hG.below hb3)).mono ?_); rintro e w4 ⟨rfl, hb4⟩)
  have hx := hx.below hb4
  have hb4 := bto hb3 hb4
  have c0 := hx.c0
  have c1 := hx.c1
  have f0 := hx.f0
  have f1 := hx.f1
  go_wp2_with fail
  have hy := hx.set (.string ⟨(fN q).toArray⟩) (.string ⟨(fD q).toArray⟩)
  have d0 := hy.c0
  have d1 := hy.c1
  refine bodyPost_ret (v := (Value.agg #[Value.string ⟨List.toArray (fN q)⟩, Value.string ⟨List.toArray (fD q)⟩])) (by simp [results, Tryz.results100, go_sem, d0, d1]) rfl ?_
  exact ⟨rfl, below_set2 hb4 (by omega) _ _⟩
set_option maxHeartbeats 1000000 in
set_option maxRecDepth 100000 in
theorem apply4_any (l l' k k' : List UInt8) (m : Nat) (w : World) (hl : l.length ≤ 100000) (hl' : l'.length ≤ 100000) (hk : k.length ≤ 100000) (hk' : k'.length ≤ 100000) (hG : Glob w) (h0 : val k ≠ 0) (hm : m < w.heap.size) (hc : w.cell? ⟨m, 0, none⟩ = some (.func (.func 163) #[] #[])) :
    Calls Tryz.prog 100 #[.func (.func 169) #[] #[.pointer (some ⟨m, 0, none⟩)], (Value.agg #[Value.string ⟨List.toArray l⟩, Value.string ⟨List.toArray l'⟩]), (Value.agg #[Value.string ⟨List.toArray k⟩, Value.string ⟨List.toArray k'⟩])] w fun e w' => e = .returned (Value.agg #[Value.string ⟨List.toArray (fN (fv l l' / fv k k'))⟩, Value.string ⟨List.toArray (fD (fv l l' / fv k k'))⟩]) ∧ Below w.heap.size w w' := by
  have hpl := pd_len hl' (show 1 ≤ 100000 by decide)
  have hpk := pd_len hk' (show 1 ≤ 100000 by decide)
  have hv : Rat.divInt ((val l * val (pd k'))) ((val (pd l') * val k)) = fv l l' / fv k k' := by
    unfold fv; rw [Rat.div_def, Rat.inv_divInt, Rat.divInt_mul_divInt]; rw [val_pd, val_pd]
  have hnl : (canon ((val l * val (pd k')))).length ≤ 1000000 := by
    have hl' := hpl; have hk' := hpk
    exact Nat.le_trans (canon_mul_len _ _) (by omega)
  have hdl : (canon ((val (pd l') * val k))).length ≤ 1000000 := Nat.le_trans (canon_mul_len _ _) (by omega)
  have hne : val (canon ((val (pd l') * val k))) ≠ 0 := by rw [val_canon, val_pd]; exact Int.mul_ne_zero (den1_ne _) h0
  have hmd : ∀ w : World, Glob w → _ := fun w hG => made_any (canon ((val l * val (pd k')))) (canon ((val (pd l') * val k))) w hnl hdl hG hne
  simp only [val_canon, hv] at hmd
  have hop : ∀ w : World, Glob w → _ → _ → _ := fun w hG hm hc => op4_any l (pd l') k (pd k') m w (Nat.le_trans hl (by decide)) (Nat.le_trans hpl (by decide)) (Nat.le_trans hk (by decide)) (Nat.le_trans hpk (by decide)) hG hm hc
  obtain ⟨q, hq⟩ : ∃ q, q = fv l l' / fv k k' := ⟨_, rfl⟩
  obtain ⟨N, hN⟩ : ∃ N, N = canon ((val l * val (pd k'))) := ⟨_, rfl⟩
  obtain ⟨D, hD⟩ : ∃ D, D = canon ((val (pd l') * val k)) := ⟨_, rfl⟩
  simp only [← hq, ← hN, ← hD] at hmd hop ⊢
  have HM := Lib.hid hmd
  have HO := Lib.hid hop
  have HC := Lib.hid hc
  clear hq hN hD hmd hop hv hnl hdl hne hc
  go_enter Tryz.func100, Tryz.ntmps100
  go_wp2_with fail
  ((with_reducible refine (parts_any l l' _ (Nat.le_trans hl' (by decide))).mono ?_); rintro e w1 ⟨rfl, hb1⟩)
  have hx0 := ((FBox.new (w.alloc (.cells #[.string ⟨l.toArray⟩, .string ⟨l'.toArray⟩] 25)) (.string ⟨k.toArray⟩) (.string ⟨k'.toArray⟩) 25).below (below_alloc _ (.cells #[.string ⟨#[]⟩, .string ⟨#[]⟩] 25))).below hb1
  have hx := (FBox.new ((w.alloc (.cells #[.string ⟨l.toArray⟩, .string ⟨l'.toArray⟩] 25)).alloc (.cells #[.string ⟨k.toArray⟩, .string ⟨k'.toArray⟩] 25)) (.string ⟨#[]⟩) (.string ⟨#[]⟩) 25).below hb1
  have hb1 := bto (bto (bto (below_alloc w (.cells #[.string ⟨l.toArray⟩, .string ⟨l'.toArray⟩] 25)) (below_alloc _ (.cells #[.string ⟨k.toArray⟩, .string ⟨k'.toArray⟩] 25))) (below_alloc _ (.cells #[.string ⟨#[]⟩, .string ⟨#[]⟩] 25))) hb1
  rw [World.size_alloc] at hx0
  rw [World.size_alloc, World.size_alloc] at hx
  have e0 := hx0.c0
  have e1 := hx0.c1
  go_wp2_with fail
  ((with_reducible refine (parts_any k k' _ (Nat.le_trans hk' (by decide))).mono ?_); rintro e w2 ⟨rfl, hb2⟩)
  have hx := hx.below hb2
  have hb2 := bto hb1 hb2
  clear e0 e1 hx0
  go_wp2_with fail
  ((with_reducible refine (HO.out _ (by exact hG.below hb2) (by exact Nat.lt_of_lt_of_le hm hb2.size) (by exact (hb2.cell (p := ⟨m, 0, none⟩) hm).trans HC.out)).mono ?_); rintro e w3 ⟨rfl, hb3⟩)
  have hx := hx.below hb3
  have hb3 := bto hb2 hb3
  go_wp2_with fail
  ((with_reducible refine (HM.out _ (by exact hG.below hb3)).mono ?_); rintro e w4 ⟨rfl, hb4⟩)
  have hx := hx.below hb4
  have hb4 := bto hb3 hb4
  have c0 := hx.c0
  have c1 := hx.c1
  have f0 := hx.f0
  have f1 := hx.f1
  go_wp2_with fail
  have hy := hx.set (.string ⟨(fN q).toArray⟩) (.string ⟨(fD q).toArray⟩)
  have d0 := hy.c0
  have d1 := hy.c1
  refine bodyPost_ret (v := (Value.agg #[Value.string ⟨List.toArray (fN q)⟩, Value.string ⟨List.toArray (fD q)⟩])) (by simp [results, Tryz.results100, go_sem, d0, d1]) rfl ?_
  exact ⟨rfl, below_set2 hb4 (by omega) _ _⟩
end Go.Proofs.YtgnppdkeiihlfaaGreatDoor
/- Package fraction: Add, Sub, Mul, Quo. Printed by wip/tools/gen_arith.py. -/
namespace Go.Proofs.YtgnppdkeiihlfaaGreatDoor
open Go.RowKit Num
set_option maxHeartbeats 2000000 in
set_option maxRecDepth 100000 in
theorem Add_any (l l' k k' : List UInt8) (w : World) (hl : l.length ≤ 100000) (hl' : l'.length ≤ 100000) (hk : k.length ≤ 100000) (hk' : k'.length ≤ 100000) (hG : Glob w) :
    Calls Tryz.prog 38 #[(Value.agg #[Value.string ⟨List.toArray l⟩, Value.string ⟨List.toArray l'⟩]), (Value.agg #[Value.string ⟨List.toArray k⟩, Value.string ⟨List.toArray k'⟩])] w fun e w' => e = .returned ((Value.agg #[Value.string ⟨List.toArray (fN (fv l l' + fv k k'))⟩, Value.string ⟨List.toArray (fD (fv l l' + fv k k'))⟩])) ∧ Below w.heap.size w w' := by
  have hap : ∀ (m : Nat) (w : World), Glob w → _ → _ → _ := fun m w hG hm hc => apply1_any l l' k k' m w hl hl' hk hk' hG hm hc
  obtain ⟨q, hq⟩ : ∃ q, q = fv l l' + fv k k' := ⟨_, rfl⟩
  simp only [← hq] at hap ⊢
  have HA := Lib.hid hap
  clear hq hap
  have hix : ∀ (p1 p2 p3 p4 : Value) (w : World), (Instr.index 116 (.agg #[.func (.func 164) #[] #[p1], .func (.func 166) #[] #[p2], .func (.func 168) #[] #[p3], .func (.func 169) #[] #[p4]]) (.int .i64 0)).run Tryz.prog w = .ok (.func (.func 164) #[] #[p1]) w := fun _ _ _ _ _ => by kernel_rfl
  have X0 := ((FBox.new w (.string ⟨l.toArray⟩) (.string ⟨l'.toArray⟩) 25).below (below_alloc _ (.cells #[.string ⟨k.toArray⟩, .string ⟨k'.toArray⟩] 25))).below (below_alloc _ (.cells #[.string ⟨#[]⟩, .string ⟨#[]⟩] 25))
  have X1 := (FBox.new (w.alloc (.cells #[.string ⟨l.toArray⟩, .string ⟨l'.toArray⟩] 25)) (.string ⟨k.toArray⟩) (.string ⟨k'.toArray⟩) 25).below (below_alloc _ (.cells #[.string ⟨#[]⟩, .string ⟨#[]⟩] 25))
  have X2 := FBox.new ((w.alloc (.cells #[.string ⟨l.toArray⟩, .string ⟨l'.toArray⟩] 25)).alloc (.cells #[.string ⟨k.toArray⟩, .string ⟨k'.toArray⟩] 25)) (.string ⟨#[]⟩) (.string ⟨#[]⟩) 25
  have hbW := bto (below_alloc w (.cells #[.string ⟨l.toArray⟩, .string ⟨l'.toArray⟩] 25)) (bto (below_alloc _ (.cells #[.string ⟨k.toArray⟩, .string ⟨k'.toArray⟩] 25)) (below_alloc _ (.cells #[.string ⟨#[]⟩, .string ⟨#[]⟩] 25)))
  rw [World.size_alloc] at X1
  rw [World.size_alloc, World.size_alloc] at X2
  obtain ⟨W, hW⟩ : ∃ W, W = ((w.alloc (.cells #[.string ⟨l.toArray⟩, .string ⟨l'.toArray⟩] 25)).alloc (.cells #[.string ⟨k.toArray⟩, .string ⟨k'.toArray⟩] 25)).alloc (.cells #[.string ⟨#[]⟩, .string ⟨#[]⟩] 25) := ⟨_, rfl⟩
  obtain ⟨b0, hb0⟩ : ∃ b, b = w.heap.size := ⟨_, rfl⟩
  obtain ⟨b1, hb1⟩ : ∃ b, b = w.heap.size + 1 := ⟨_, rfl⟩
  obtain ⟨b2, hb2⟩ : ∃ b, b = w.heap.size + 1 + 1 := ⟨_, rfl⟩
  rw [← hW] at X0 X1 X2 hbW
  rw [← hb0] at X0
  rw [← hb1] at X1
  rw [← hb2] at X2
  have d02 : ¬ b0 = b2 := by omega
  have d12 : ¬ b1 = b2 := by omega
  have d20 : ¬ b2 = b0 := by omega
  have d21 : ¬ b2 = b1 := by omega
  have hwb : w.heap.size ≤ b2 := by omega
  have HW := Lib.hid (And.intro hW (And.intro hb0 (And.intro hb1 hb2)))
  clear hW hb0 hb1 hb2
  go_enter Tryz.func38, Tryz.ntmps38
  go_wp2_with fail
  rw [← HW.out.1, ← HW.out.2.2.2, ← HW.out.2.2.1, ← HW.out.2.1]
  have hbc := bdr W
  have x0 := X0.below hbc; have x1 := X1.below hbc; have x2 := X2.below hbc; have q0 := x0.c0; have q1 := x0.c1; have q2 := x1.c0; have q3 := x1.c1; have c0 := x2.c0; have c1 := x2.c1; have f0 := x2.f0; have f1 := x2.f1
  go_region_held3 (fun w' => w'.cell? ⟨b0, 0, none⟩ = some (.string ⟨l.toArray⟩) ∧ w'.cell? ⟨b0, 1, none⟩ = some (.string ⟨l'.toArray⟩) ∧ w'.cell? ⟨b1, 0, none⟩ = some (.string ⟨k.toArray⟩) ∧ w'.cell? ⟨b1, 1, none⟩ = some (.string ⟨k'.toArray⟩))
    (first | go_keep | (dsimp only; exact ⟨q0, q1, q2, q3⟩))
    (first
      | (go_at_call 101; (with_reducible refine Calls.mono (operations_any _) ?_); rintro e w1 ⟨rfl, hm1, hc1, hb1⟩; have hm1 : W.heap.size + 1 < w1.heap.size := hm1; have hc1 : w1.cell? ⟨W.heap.size + 1, 0, none⟩ = some (.func (.func 163) #[] #[]) := hc1; have hbc := bto hbc hb1; have x0 := X0.below hbc; have x1 := X1.below hbc; have x2 := X2.below hbc; have q0 := x0.c0; have q1 := x0.c1; have q2 := x1.c0; have q3 := x1.c1; have c0 := x2.c0; have c1 := x2.c1; have f0 := x2.f0; have f1 := x2.f1)
      | (go_at_call 100; (with_reducible refine Calls.mono (HA.out _ _ (by exact (hG.below hbW).below hbc) (by exact hm1) (by exact hc1)) ?_); rintro e w2 ⟨rfl, hb2⟩; have hbc := bto hbc hb2; have x0 := X0.below hbc; have x1 := X1.below hbc; have x2 := X2.below hbc; have q0 := x0.c0; have q1 := x0.c1; have q2 := x1.c0; have q3 := x1.c1; have c0 := x2.c0; have c1 := x2.c1; have f0 := x2.f0; have f1 := x2.f1))
  go_wp2
  have hy := x2.set (.string ⟨(fN q).toArray⟩) (.string ⟨(fD q).toArray⟩)
  have z0 := hy.c0
  have z1 := hy.c1
  refine bodyPost_ret (v := (Value.agg #[Value.string ⟨List.toArray (fN q)⟩, Value.string ⟨List.toArray (fD q)⟩])) (by simp [results, Tryz.results38, go_sem, z0, z1]) rfl ?_
  exact ⟨rfl, below_set2 (bto hbW hbc) hwb _ _⟩
set_option maxHeartbeats 2000000 in
set_option maxRecDepth 100000 in
theorem Sub_any (l l' k k' : List UInt8) (w : World) (hl : l.length ≤ 100000) (hl' : l'.length ≤ 100000) (hk : k.length ≤ 100000) (hk' : k'.length ≤ 100000) (hG : Glob w) :
    Calls Tryz.prog 41 #[(Value.agg #[Value.string ⟨List.toArray l⟩, Value.string ⟨List.toArray l'⟩]), (Value.agg #[Value.string ⟨List.toArray k⟩, Value.string ⟨List.toArray k'⟩])] w fun e w' => e = .returned ((Value.agg #[Value.string ⟨List.toArray (fN (fv l l' - fv k k'))⟩, Value.string ⟨List.toArray (fD (fv l l' - fv k k'))⟩])) ∧ Below w.heap.size w w' := by
  have hap : ∀ (m : Nat) (w : World), Glob w → _ → _ → _ := fun m w hG hm hc => apply2_any l l' k k' m w hl hl' hk hk' hG hm hc
  obtain ⟨q, hq⟩ : ∃ q, q = fv l l' - fv k k' := ⟨_, rfl⟩
  simp only [← hq] at hap ⊢
  have HA := Lib.hid hap
  clear hq hap
  have hix : ∀ (p1 p2 p3 p4 : Value) (w : World), (Instr.index 116 (.agg #[.func (.func 164) #[] #[p1], .func (.func 166) #[] #[p2], .func (.func 168) #[] #[p3], .func (.func 169) #[] #[p4]]) (.int .i64 1)).run Tryz.prog w = .ok (.func (.func 166) #[] #[p2]) w := fun _ _ _ _ _ => by kernel_rfl
  have X0 := ((FBox.new w (.string ⟨l.toArray⟩) (.string ⟨l'.toArray⟩) 25).below (below_alloc _ (.cells #[.string ⟨k.toArray⟩, .string ⟨k'.toArray⟩] 25))).below (below_alloc _ (.cells #[.string ⟨#[]⟩, .string ⟨#[]⟩] 25))
  have X1 := (FBox.new (w.alloc (.cells #[.string ⟨l.toArray⟩, .string ⟨l'.toArray⟩] 25)) (.string ⟨k.toArray⟩) (.string ⟨k'.toArray⟩) 25).below (below_alloc _ (.cells #[.string ⟨#[]⟩, .string ⟨#[]⟩] 25))
  have X2 := FBox.new ((w.alloc (.cells #[.string ⟨l.toArray⟩, .string ⟨l'.toArray⟩] 25)).alloc (.cells #[.string ⟨k.toArray⟩, .string ⟨k'.toArray⟩] 25)) (.string ⟨#[]⟩) (.string ⟨#[]⟩) 25
  have hbW := bto (below_alloc w (.cells #[.string ⟨l.toArray⟩, .string ⟨l'.toArray⟩] 25)) (bto (below_alloc _ (.cells #[.string ⟨k.toArray⟩, .string ⟨k'.toArray⟩] 25)) (below_alloc _ (.cells #[.string ⟨#[]⟩, .string ⟨#[]⟩] 25)))
  rw [World.size_alloc] at X1
  rw [World.size_alloc, World.size_alloc] at X2
  obtain ⟨W, hW⟩ : ∃ W, W = ((w.alloc (.cells #[.string ⟨l.toArray⟩, .string ⟨l'.toArray⟩] 25)).alloc (.cells #[.string ⟨k.toArray⟩, .string ⟨k'.toArray⟩] 25)).alloc (.cells #[.string ⟨#[]⟩, .string ⟨#[]⟩] 25) := ⟨_, rfl⟩
  obtain ⟨b0, hb0⟩ : ∃ b, b = w.heap.size := ⟨_, rfl⟩
  obtain ⟨b1, hb1⟩ : ∃ b, b = w.heap.size + 1 := ⟨_, rfl⟩
  obtain ⟨b2, hb2⟩ : ∃ b, b = w.heap.size + 1 + 1 := ⟨_, rfl⟩
  rw [← hW] at X0 X1 X2 hbW
  rw [← hb0] at X0
  rw [← hb1] at X1
  rw [← hb2] at X2
  have d02 : ¬ b0 = b2 := by omega
  have d12 : ¬ b1 = b2 := by omega
  have d20 : ¬ b2 = b0 := by omega
  have d21 : ¬ b2 = b1 := by omega
  have hwb : w.heap.size ≤ b2 := by omega
  have HW := Lib.hid (And.intro hW (And.intro hb0 (And.intro hb1 hb2)))
  clear hW hb0 hb1 hb2
  go_enter Tryz.func41, Tryz.ntmps41
  go_wp2_with fail
  rw [← HW.out.1, ← HW.out.2.2.2, ← HW.out.2.2.1, ← HW.out.2.1]
  have hbc := bdr W
  have x0 := X0.below hbc; have x1 := X1.below hbc; have x2 := X2.below hbc; have q0 := x0.c0; have q1 := x0.c1; have q2 := x1.c0; have q3 := x1.c1; have c0 := x2.c0; have c1 := x2.c1; have f0 := x2.f0; have f1 := x2.f1
  go_region_held3 (fun w' => w'.cell? ⟨b0, 0, none⟩ = some (.string ⟨l.toArray⟩) ∧ w'.cell? ⟨b0, 1, none⟩ = some (.string ⟨l'.toArray⟩) ∧ w'.cell? ⟨b1, 0, none⟩ = some (.string ⟨k.toArray⟩) ∧ w'.cell? ⟨b1, 1, none⟩ = some (.string ⟨k'.toArray⟩))
    (first | go_keep | (dsimp only; exact ⟨q0, q1, q2, q3⟩))
    (first
      | (go_at_call 101; (with_reducible refine Calls.mono (operations_any _) ?_); rintro e w1 ⟨rfl, hm1, hc1, hb1⟩; have hm1 : W.heap.size + 1 < w1.heap.size := hm1; have hc1 : w1.cell? ⟨W.heap.size + 1, 0, none⟩ = some (.func (.func 163) #[] #[]) := hc1; have hbc := bto hbc hb1; have x0 := X0.below hbc; have x1 := X1.below hbc; have x2 := X2.below hbc; have q0 := x0.c0; have q1 := x0.c1; have q2 := x1.c0; have q3 := x1.c1; have c0 := x2.c0; have c1 := x2.c1; have f0 := x2.f0; have f1 := x2.f1)
      | (go_at_call 100; (with_reducible refine Calls.mono (HA.out _ _ (by exact (hG.below hbW).below hbc) (by exact hm1) (by exact hc1)) ?_); rintro e w2 ⟨rfl, hb2⟩; have hbc := bto hbc hb2; have x0 := X0.below hbc; have x1 := X1.below hbc; have x2 := X2.below hbc; have q0 := x0.c0; have q1 := x0.c1; have q2 := x1.c0; have q3 := x1.c1; have c0 := x2.c0; have c1 := x2.c1; have f0 := x2.f0; have f1 := x2.f1))
  go_wp2
  have hy := x2.set (.string ⟨(fN q).toArray⟩) (.string ⟨(fD q).toArray⟩)
  have z0 := hy.c0
  have z1 := hy.c1
  refine bodyPost_ret (v := (Value.agg #[Value.string ⟨List.toArray (fN q)⟩, Value.string ⟨List.toArray (fD q)⟩])) (by simp [results, Tryz.results41, go_sem, z0, z1]) rfl ?_
  exact ⟨rfl, below_set2 (bto hbW hbc) hwb _ _⟩
set_option maxHeartbeats 2000000 in
set_option maxRecDepth 100000 in
theorem Mul_any (l l' k k' : List UInt8) (w : World) (hl : l.length ≤ 100000) (hl' : l'.length ≤ 100000) (hk : k.length ≤ 100000) (hk' : k'.length ≤ 100000) (hG : Glob w) :
    Calls Tryz.prog 39 #[(Value.agg #[Value.string ⟨List.toArray l⟩, Value.string ⟨List.toArray l'⟩]), (Value.agg #[Value.string ⟨List.toArray k⟩, Value.string ⟨List.toArray k'⟩])] w fun e w' => e = .returned ((Value.agg #[Value.string ⟨List.toArray (fN (fv l l' * fv k k'))⟩, Value.string ⟨List.toArray (fD (fv l l' * fv k k'))⟩])) ∧ Below w.heap.size w w' := by
  have hap : ∀ (m : Nat) (w : World), Glob w → _ → _ → _ := fun m w hG hm hc => apply3_any l l' k k' m w hl hl' hk hk' hG hm hc
  obtain ⟨q, hq⟩ : ∃ q, q = fv l l' * fv k k' := ⟨_, rfl⟩
  simp only [← hq] at hap ⊢
  have HA := Lib.hid hap
  clear hq hap
  have hix : ∀ (p1 p2 p3 p4 : Value) (w : World), (Instr.index 116 (.agg #[.func (.func 164) #[] #[p1], .func (.func 166) #[] #[p2], .func (.func 168) #[] #[p3], .func (.func 169) #[] #[p4]]) (.int .i64 2)).run Tryz.prog w = .ok (.func (.func 168) #[] #[p3]) w := fun _ _ _ _ _ => by kernel_rfl
  have X0 := ((FBox.new w (.string ⟨l.toArray⟩) (.string ⟨l'.toArray⟩) 25).below (below_alloc _ (.cells #[.string ⟨k.toArray⟩, .string ⟨k'.toArray⟩] 25))).below (below_alloc _ (.cells #[.string ⟨#[]⟩, .string ⟨#[]⟩] 25))
  have X1 := (FBox.new (w.alloc (.cells #[.string ⟨l.toArray⟩, .string ⟨l'.toArray⟩] 25)) (.string ⟨k.toArray⟩) (.string ⟨k'.toArray⟩) 25).below (below_alloc _ (.cells #[.string ⟨#[]⟩, .string ⟨#[]⟩] 25))
  have X2 := FBox.new ((w.alloc (.cells #[.string ⟨l.toArray⟩, .string ⟨l'.toArray⟩] 25)).alloc (.cells #[.string ⟨k.toArray⟩, .string ⟨k'.toArray⟩] 25)) (.string ⟨#[]⟩) (.string ⟨#[]⟩) 25
  have hbW := bto (below_alloc w (.cells #[.string ⟨l.toArray⟩, .string ⟨l'.toArray⟩] 25)) (bto (below_alloc _ (.cells #[.string ⟨k.toArray⟩, .string ⟨k'.toArray⟩] 25)) (below_alloc _ (.cells #[.string ⟨#[]⟩, .string ⟨#[]⟩] 25)))
  rw [World.size_alloc] at X1
  rw [World.size_alloc, World.size_alloc] at X2
  obtain ⟨W, hW⟩ : ∃ W, W = ((w.alloc (.cells #[.string ⟨l.toArray⟩, .string ⟨l'.toArray⟩] 25)).alloc (.cells #[.string ⟨k.toArray⟩, .string ⟨k'.toArray⟩] 25)).alloc (.cells #[.string ⟨#[]⟩, .string ⟨#[]⟩] 25) := ⟨_, rfl⟩
  obtain ⟨b0, hb0⟩ : ∃ b, b = w.heap.size := ⟨_, rfl⟩
  obtain ⟨b1, hb1⟩ : ∃ b, b = w.heap.size + 1 := ⟨_, rfl⟩
  obtain ⟨b2, hb2⟩ : ∃ b, b = w.heap.size + 1 + 1 := ⟨_, rfl⟩
  rw [← hW] at X0 X1 X2 hbW
  rw [← hb0] at X0
  rw [← hb1] at X1
  rw [← hb2] at X2
  have d02 : ¬ b0 = b2 := by omega
  have d12 : ¬ b1 = b2 := by omega
  have d20 : ¬ b2 = b0 := by omega
  have d21 : ¬ b2 = b1 := by omega
  have hwb : w.heap.size ≤ b2 := by omega
  have HW := Lib.hid (And.intro hW (And.intro hb0 (And.intro hb1 hb2)))
  clear hW hb0 hb1 hb2
  go_enter Tryz.func39, Tryz.ntmps39
  go_wp2_with fail
  rw [← HW.out.1, ← HW.out.2.2.2, ← HW.out.2.2.1, ← HW.out.2.1]
  have hbc := bdr W
  have x0 := X0.below hbc; have x1 := X1.below hbc; have x2 := X2.below hbc; have q0 := x0.c0; have q1 := x0.c1; have q2 := x1.c0; have q3 := x1.c1; have c0 := x2.c0; have c1 := x2.c1; have f0 := x2.f0; have f1 := x2.f1
  go_region_held3 (fun w' => w'.cell? ⟨b0, 0, none⟩ = some (.string ⟨l.toArray⟩) ∧ w'.cell? ⟨b0, 1, none⟩ = some (.string ⟨l'.toArray⟩) ∧ w'.cell? ⟨b1, 0, none⟩ = some (.string ⟨k.toArray⟩) ∧ w'.cell? ⟨b1, 1, none⟩ = some (.string ⟨k'.toArray⟩))
    (first | go_keep | (dsimp only; exact ⟨q0, q1, q2, q3⟩))
    (first
      | (go_at_call 101; (with_reducible refine Calls.mono (operations_any _) ?_); rintro e w1 ⟨rfl, hm1, hc1, hb1⟩; have hm1 : W.heap.size + 1 < w1.heap.size := hm1; have hc1 : w1.cell? ⟨W.heap.size + 1, 0, none⟩ = some (.func (.func 163) #[] #[]) := hc1; have hbc := bto hbc hb1; have x0 := X0.below hbc; have x1 := X1.below hbc; have x2 := X2.below hbc; have q0 := x0.c0; have q1 := x0.c1; have q2 := x1.c0; have q3 := x1.c1; have c0 := x2.c0; have c1 := x2.c1; have f0 := x2.f0; have f1 := x2.f1)
      | (go_at_call 100; (with_reducible refine Calls.mono (HA.out _ _ (by exact (hG.below hbW).below hbc) (by exact hm1) (by exact hc1)) ?_); rintro e w2 ⟨rfl, hb2⟩; have hbc := bto hbc hb2; have x0 := X0.below hbc; have x1 := X1.below hbc; have x2 := X2.below hbc; have q0 := x0.c0; have q1 := x0.c1; have q2 := x1.c0; have q3 := x1.c1; have c0 := x2.c0; have c1 := x2.c1; have f0 := x2.f0; have f1 := x2.f1))
  go_wp2
  have hy := x2.set (.string ⟨(fN q).toArray⟩) (.string ⟨(fD q).toArray⟩)
  have z0 := hy.c0
  have z1 := hy.c1
  refine bodyPost_ret (v := (Value.agg #[Value.string ⟨List.toArray (fN q)⟩, Value.string ⟨List.toArray (fD q)⟩])) (by simp [results, Tryz.results39, go_sem, z0, z1]) rfl ?_
  exact ⟨rfl, below_set2 (bto hbW hbc) hwb _ _⟩
set_option maxHeartbeats 2000000 in
set_option maxRecDepth 100000 in
theorem Quo_any (l l' k k' : List UInt8) (w : World) (hl : l.length ≤ 100000) (hl' : l'.length ≤ 100000) (hk : k.length ≤ 100000) (hk' : k'.length ≤ 100000) (hG : Glob w) (h0 : val k ≠ 0) :
    Calls Tryz.prog 73 #[(Value.agg #[Value.string ⟨List.toArray l⟩, Value.string ⟨List.toArray l'⟩]), (Value.agg #[Value.string ⟨List.toArray k⟩, Value.string ⟨List.toArray k'⟩])] w fun e w' => e = .returned (.tuple #[(Value.agg #[Value.string ⟨List.toArray (fN (fv l l' / fv k k'))⟩, Value.string ⟨List.toArray (fD (fv l l' / fv k k'))⟩]), .int .i64 0]) ∧ Below w.heap.size w w' := by
  have hap : ∀ (m : Nat) (w : World), Glob w → _ → _ → _ := fun m w hG hm hc => apply4_any l l' k k' m w hl hl' hk hk' hG h0 hm hc
  obtain ⟨q, hq⟩ : ∃ q, q = fv l l' / fv k k' := ⟨_, rfl⟩
  simp only [← hq] at hap ⊢
  have HA := Lib.hid hap
  clear hq hap
  have hix : ∀ (p1 p2 p3 p4 : Value) (w : World), (Instr.index 116 (.agg #[.func (.func 164) #[] #[p1], .func (.func 166) #[] #[p2], .func (.func 168) #[] #[p3], .func (.func 169) #[] #[p4]]) (.int .i64 3)).run Tryz.prog w = .ok (.func (.func 169) #[] #[p4]) w := fun _ _ _ _ _ => by kernel_rfl
  have X0 := ((FBox.new w (.string ⟨l.toArray⟩) (.string ⟨l'.toArray⟩) 25).below (below_alloc _ (.cells #[.string ⟨k.toArray⟩, .string ⟨k'.toArray⟩] 25))).below (below_alloc _ (.cells #[.string ⟨#[]⟩, .string ⟨#[]⟩] 25))
  have X1 := (FBox.new (w.alloc (.cells #[.string ⟨l.toArray⟩, .string ⟨l'.toArray⟩] 25)) (.string ⟨k.toArray⟩) (.string ⟨k'.toArray⟩) 25).below (below_alloc _ (.cells #[.string ⟨#[]⟩, .string ⟨#[]⟩] 25))
  have X2 := FBox.new ((w.alloc (.cells #[.string ⟨l.toArray⟩, .string ⟨l'.toArray⟩] 25)).alloc (.cells #[.string ⟨k.toArray⟩, .string ⟨k'.toArray⟩] 25)) (.string ⟨#[]⟩) (.string ⟨#[]⟩) 25
  have hbW := bto (below_alloc w (.cells #[.string ⟨l.toArray⟩, .string ⟨l'.toArray⟩] 25)) (bto (below_alloc _ (.cells #[.string ⟨k.toArray⟩, .string ⟨k'.toArray⟩] 25)) (below_alloc _ (.cells #[.string ⟨#[]⟩, .string ⟨#[]⟩] 25)))
  rw [World.size_alloc] at X1
  rw [World.size_alloc, World.size_alloc] at X2
  obtain ⟨W, hW⟩ : ∃ W, W = ((w.alloc (.cells #[.string ⟨l.toArray⟩, .string ⟨l'.toArray⟩] 25)).alloc (.cells #[.string ⟨k.toArray⟩, .string ⟨k'.toArray⟩] 25)).alloc (.cells #[.string ⟨#[]⟩, .string ⟨#[]⟩] 25) := ⟨_, rfl⟩
  obtain ⟨b0, hb0⟩ : ∃ b, b = w.heap.size := ⟨_, rfl⟩
  obtain ⟨b1, hb1⟩ : ∃ b, b = w.heap.size + 1 := ⟨_, rfl⟩
  obtain ⟨b2, hb2⟩ : ∃ b, b = w.heap.size + 1 + 1 := ⟨_, rfl⟩
  rw [← hW] at X0 X1 X2 hbW
  rw [← hb0] at X0
  rw [← hb1] at X1
  rw [← hb2] at X2
  have d02 : ¬ b0 = b2 := by omega
  have d12 : ¬ b1 = b2 := by omega
  have d20 : ¬ b2 = b0 := by omega
  have d21 : ¬ b2 = b1 := by omega
  have hwb : w.heap.size ≤ b2 := by omega
  have HW := Lib.hid (And.intro hW (And.intro hb0 (And.intro hb1 hb2)))
  clear hW hb0 hb1 hb2
  have hcc := cmp0 (val k)
  obtain ⟨cz, hcz⟩ : ∃ cz, cz = cmpZ (val k) (val []) := ⟨_, rfl⟩
  have hcz0 : (cz == 0) = false := by rw [hcz, hcc]; by_cases h1 : val k < 0 <;> simp [h1]; omega
  have HC := Lib.hid hcz
  clear hcz hcc h0
  go_enter Tryz.func73, Tryz.ntmps73
  go_wp2_with fail
  rw [← HW.out.1, ← HW.out.2.2.2, ← HW.out.2.2.1, ← HW.out.2.1]
  ((with_reducible refine (icompare_any k [] _ (Nat.le_trans hk (by decide)) (by decide)).mono ?_); rintro e w0 ⟨rfl, hb⟩)
  rw [← HC.out]
  have X0 := X0.below hb
  have X1 := X1.below hb
  have X2 := X2.below hb
  have hbW := bto hbW hb
  go_wp2_with fail
  have hbc := bdr w0
  have x0 := X0.below hbc; have x1 := X1.below hbc; have x2 := X2.below hbc; have q0 := x0.c0; have q1 := x0.c1; have q2 := x1.c0; have q3 := x1.c1; have c0 := x2.c0; have c1 := x2.c1; have f0 := x2.f0; have f1 := x2.f1
  go_region_held3 (fun w' => w'.cell? ⟨b0, 0, none⟩ = some (.string ⟨l.toArray⟩) ∧ w'.cell? ⟨b0, 1, none⟩ = some (.string ⟨l'.toArray⟩) ∧ w'.cell? ⟨b1, 0, none⟩ = some (.string ⟨k.toArray⟩) ∧ w'.cell? ⟨b1, 1, none⟩ = some (.string ⟨k'.toArray⟩))
    (first | go_keep | (dsimp only; exact ⟨q0, q1, q2, q3⟩))
    (first
      | (go_at_call 101; (with_reducible refine Calls.mono (operations_any _) ?_); rintro e w1 ⟨rfl, hm1, hc1, hb1⟩; have hm1 : w0.heap.size + 1 < w1.heap.size := hm1; have hc1 : w1.cell? ⟨w0.heap.size + 1, 0, none⟩ = some (.func (.func 163) #[] #[]) := hc1; have hbc := bto hbc hb1; have x0 := X0.below hbc; have x1 := X1.below hbc; have x2 := X2.below hbc; have q0 := x0.c0; have q1 := x0.c1; have q2 := x1.c0; have q3 := x1.c1; have c0 := x2.c0; have c1 := x2.c1; have f0 := x2.f0; have f1 := x2.f1)
      | (go_at_call 100; (with_reducible refine Calls.mono (HA.out _ _ (by exact (hG.below hbW).below hbc) (by exact hm1) (by exact hc1)) ?_); rintro e w2 ⟨rfl, hb2⟩; have hbc := bto hbc hb2; have x0 := X0.below hbc; have x1 := X1.below hbc; have x2 := X2.below hbc; have q0 := x0.c0; have q1 := x0.c1; have q2 := x1.c0; have q3 := x1.c1; have c0 := x2.c0; have c1 := x2.c1; have f0 := x2.f0; have f1 := x2.f1))
  go_wp2
  have hy := x2.set (.string ⟨(fN q).toArray⟩) (.string ⟨(fD q).toArray⟩)
  have z0 := hy.c0
  have z1 := hy.c1
  refine bodyPost_ret (v := .tuple #[(Value.agg #[Value.string ⟨List.toArray (fN q)⟩, Value.string ⟨List.toArray (fD q)⟩]), .int .i64 0]) (by simp [results, Tryz.results73, go_sem, z0, z1]) rfl ?_
  exact ⟨rfl, below_set2 (bto hbW hbc) hwb _ _⟩
end Go.Proofs.YtgnppdkeiihlfaaGreatDoor
/- Package fraction: Quo by zero, Compare, Floor, Check. -/
namespace Go.Proofs.YtgnppdkeiihlfaaGreatDoor
open Go.RowKit Num
def cmpQ (p q : Rat) : Int := cmpZ (p - q).num 0
theorem frac_len {l l' k k' : List UInt8} {i : Nat} (h1 : l.length ≤ i) (h2 : l'.length ≤ i) (h3 : k.length ≤ i) (h4 : k'.length ≤ i) (hi : 1 ≤ i) : (fN (fv l l' - fv k k')).length ≤ 2 * i + 2 ∧ (fD (fv l l' - fv k k')).length ≤ 2 * i + 2 := by
  have h := bd_len (bd_sub (bd_fv h1 h2 hi) (bd_fv h3 h4 hi))
  omega
set_option maxHeartbeats 1000000 in
set_option maxRecDepth 100000 in
theorem Compare_any (l l' k k' : List UInt8) (w : World) (hl : l.length ≤ 100000) (hl' : l'.length ≤ 100000) (hk : k.length ≤ 100000) (hk' : k'.length ≤ 100000) (hG : Glob w) :
    Calls Tryz.prog 21 #[(Value.agg #[Value.string ⟨List.toArray l⟩, Value.string ⟨List.toArray l'⟩]), (Value.agg #[Value.string ⟨List.toArray k⟩, Value.string ⟨List.toArray k'⟩])] w fun e w' => e = .returned (.int .i64 (cmpQ (fv l l') (fv k k'))) ∧ Below w.heap.size w w' := by
  have hs : ∀ w : World, Glob w → _ := fun w hG => Sub_any l l' k k' w hl hl' hk hk' hG
  have hlen := frac_len hl hl' hk hk' (by decide)
  have hcz : cmpQ (fv l l') (fv k k') = cmpZ (val (fN (fv l l' - fv k k'))) (val []) := by unfold cmpQ; rw [val_fN, val_nil]
  rw [hcz]
  obtain ⟨q, hq⟩ : ∃ q, q = fv l l' - fv k k' := ⟨_, rfl⟩
  simp only [← hq] at hs hlen ⊢
  have HS := Lib.hid hs
  clear hq hs hcz
  go_enter Tryz.func21, Tryz.ntmps21
  go_wp2_with fail
  have hb0 := bto (below_alloc w (.cells #[.string ⟨l.toArray⟩, .string ⟨l'.toArray⟩] 25)) (below_alloc _ (.cells #[.string ⟨k.toArray⟩, .string ⟨k'.toArray⟩] 25))
  ((with_reducible refine (HS.out _ (by exact hG.below hb0)).mono ?_); rintro e w1 ⟨rfl, hb1⟩)
  have hb1 := bto hb0 hb1
  go_wp2_with fail
  ((with_reducible refine (parts_any _ _ _ (by exact Nat.le_trans hlen.2 (by decide))).mono ?_); rintro e w2 ⟨rfl, hb2⟩)
  have hb2 := bto hb1 hb2
  go_wp2_with fail
  ((with_reducible refine (icompare_any _ [] _ (by exact Nat.le_trans hlen.1 (by decide)) (by decide)).mono ?_); rintro e w3 ⟨rfl, hb3⟩)
  have hb3 := bto hb2 hb3
  go_wp2
  go_ret
  exact ⟨rfl, hb3⟩
set_option maxHeartbeats 1000000 in
set_option maxRecDepth 100000 in
theorem Check_any (l l' : List UInt8) (w : World) (hl : l.length ≤ 100000) (hl' : l'.length ≤ 100000) (hG : Glob w) :
    Calls Tryz.prog 145 #[(Value.agg #[Value.string ⟨List.toArray l⟩, Value.string ⟨List.toArray l'⟩])] w fun e w' => e = .returned (.int .i64 (if l = fN (fv l l') ∧ l' = fD (fv l l') then 0 else 1)) ∧ Below w.heap.size w w' := by
  have hm : ∀ w : World, Glob w → _ := fun w hG => made_fv l l' w (Nat.le_trans hl (by decide)) (Nat.le_trans hl' (by decide)) hG
  obtain ⟨q, hq⟩ : ∃ q, q = fv l l' := ⟨_, rfl⟩
  simp only [← hq] at hm ⊢
  have HM := Lib.hid hm
  clear hq hm
  have X0 := FBox.new w (.string ⟨l.toArray⟩) (.string ⟨l'.toArray⟩) 25
  have hbW := below_alloc w (.cells #[.string ⟨l.toArray⟩, .string ⟨l'.toArray⟩] 25)
  obtain ⟨W, hW⟩ : ∃ W, W = w.alloc (.cells #[.string ⟨l.toArray⟩, .string ⟨l'.toArray⟩] 25) := ⟨_, rfl⟩
  rw [← hW] at X0 hbW
  have HW := Lib.hid hW
  clear hW
  have hbc := bdr W
  have x0 := X0.below hbc
  have q0 := x0.c0
  have q1 := x0.c1
  by_cases h : l = fN q ∧ l' = fD q
  · rw [if_pos h]
    have h1 : (l == fN q) = true := by rw [beq_iff_eq]; exact h.1
    have h2 : (l' == fD q) = true := by rw [beq_iff_eq]; exact h.2
    clear h
    go_enter Tryz.func145, Tryz.ntmps145
    go_wp2_with fail
    rw [← HW.out]
    go_region_held3 (fun w' => w'.cell? ⟨w.heap.size, 0, none⟩ = some (.string ⟨l.toArray⟩) ∧ w'.cell? ⟨w.heap.size, 1, none⟩ = some (.string ⟨l'.toArray⟩))
      (first | go_keep | (dsimp only; exact ⟨q0, q1⟩))
      (first
        | (go_at_call 69; (with_reducible refine Calls.mono (parts_any l l' _ (Nat.le_trans hl' (by decide))) ?_); rintro e w1 ⟨rfl, hb1⟩; have hbc := bto hbc hb1; have x0 := X0.below hbc; have q0 := x0.c0; have q1 := x0.c1)
        | (go_at_call 102; (with_reducible refine Calls.mono (HM.out _ (by exact (hG.below hbW).below hbc)) ?_); rintro e w1 ⟨rfl, hb1⟩; have hbc := bto hbc hb1; have x0 := X0.below hbc; have q0 := x0.c0; have q1 := x0.c1))
    go_wp2
    go_ret
    exact ⟨rfl, bto hbW hbc⟩
  · rw [if_neg h]
    by_cases h3 : l = fN q
    · have h1 : (l == fN q) = true := by rw [beq_iff_eq]; exact h3
      have h2 : (l' == fD q) = false := by rw [beq_eq_false_iff_ne]; exact fun e => h ⟨h3, e⟩
      clear h h3
      go_enter Tryz.func145, Tryz.ntmps145
      go_wp2_with fail
      rw [← HW.out]
      go_region_held3 (fun w' => w'.cell? ⟨w.heap.size, 0, none⟩ = some (.string ⟨l.toArray⟩) ∧ w'.cell? ⟨w.heap.size, 1, none⟩ = some (.string ⟨l'.toArray⟩))
        (first | go_keep | (dsimp only; exact ⟨q0, q1⟩))
        (first
          | (go_at_call 69; (with_reducible refine Calls.mono (parts_any l l' _ (Nat.le_trans hl' (by decide))) ?_); rintro e w1 ⟨rfl, hb1⟩; have hbc := bto hbc hb1; have x0 := X0.below hbc; have q0 := x0.c0; have q1 := x0.c1)
          | (go_at_call 102; (with_reducible refine Calls.mono (HM.out _ (by exact (hG.below hbW).below hbc)) ?_); rintro e w1 ⟨rfl, hb1⟩; have hbc := bto hbc hb1; have x0 := X0.below hbc; have q0 := x0.c0; have q1 := x0.c1))
      go_wp2
      go_ret
      exact ⟨rfl, bto hbW hbc⟩
    · have h1 : (l == fN q) = false := by rw [beq_eq_false_iff_ne]; exact h3
      clear h h3
      go_enter Tryz.func145, Tryz.ntmps145
      go_wp2_with fail
      rw [← HW.out]
      go_region_held3 (fun w' => w'.cell? ⟨w.heap.size, 0, none⟩ = some (.string ⟨l.toArray⟩) ∧ w'.cell? ⟨w.heap.size, 1, none⟩ = some (.string ⟨l'.toArray⟩))
        (first | go_keep | (dsimp only; exact ⟨q0, q1⟩))
        (first
          | (go_at_call 69; (with_reducible refine Calls.mono (parts_any l l' _ (Nat.le_trans hl' (by decide))) ?_); rintro e w1 ⟨rfl, hb1⟩; have hbc := bto hbc hb1; have x0 := X0.below hbc; have q0 := x0.c0; have q1 := x0.c1)
          | (go_at_call 102; (with_reducible refine Calls.mono (HM.out _ (by exact (hG.below hbW).below hbc)) ?_); rintro e w1 ⟨rfl, hb1⟩; have hbc := bto hbc hb1; have x0 := X0.below hbc; have q0 := x0.c0; have q1 := x0.c1))
      go_wp2
      go_ret
      exact ⟨rfl, bto hbW hbc⟩
end Go.Proofs.YtgnppdkeiihlfaaGreatDoor
/- Package fraction: Print, Power. -/
namespace Go.Proofs.YtgnppdkeiihlfaaGreatDoor
open Go.RowKit Num
end Go.Proofs.YtgnppdkeiihlfaaGreatDoor
/- Package fraction: Power. -/
namespace Go.Proofs.YtgnppdkeiihlfaaGreatDoor
open Go.RowKit Num
end Go.Proofs.YtgnppdkeiihlfaaGreatDoor
/- Plain: the order and the floor of rational numbers, as the code reckons them. -/
namespace Go.Proofs.YtgnppdkeiihlfaaGreatDoor
open Num
theorem cmpQ_neg (p q : Rat) : cmpQ p q < 0 ↔ p < q := by
  have h : (p - q).num < 0 ↔ p < q := by
    rw [← Rat.not_le, Rat.le_iff_sub_nonneg, ← Rat.num_nonneg]; omega
  rw [← h]; unfold cmpQ cmpZ; split <;> (try split) <;> omega
theorem cmpQ_bound (p q : Rat) : cmpQ p q = -1 ∨ cmpQ p q = 0 ∨ cmpQ p q = 1 := by
  unfold cmpQ cmpZ; split <;> (try split) <;> omega
theorem cmpQ_swap (p q : Rat) : cmpQ p q = -cmpQ q p := by
  unfold cmpQ
  have h : (p - q).num = -(q - p).num := by rw [← Rat.neg_num, Rat.neg_sub]
  rw [h]; unfold cmpZ; split <;> split <;> (try split) <;> (try split) <;> omega
end Go.Proofs.YtgnppdkeiihlfaaGreatDoor
