/- Texts put together: Bc Bd Pw. -/
import Derived.Test.YtgnppdkeiihlfaaGreatDoorT4
import Derived.Laws.EntriesVeiled
import Derived.Laws.Concat
/- Package fraction: operations, apply. Printed by wip/tools/gen_apply.py. -/
namespace Go.Proofs.YtgnppdkeiihlfaaGreatDoor
open Go.RowKit Num

set_option maxHeartbeats 1000000 in
set_option maxRecDepth 100000 in
theorem operations_any (w : World) :
    Calls Tryz.prog 101 #[] w fun e w' => e = .returned (.agg #[.func (.func 164) #[] #[.pointer (some ⟨w.heap.size + 1, 0, none⟩)], .func (.func 166) #[] #[.pointer (some ⟨w.heap.size + 1, 0, none⟩)], .func (.func 168) #[] #[.pointer (some ⟨w.heap.size + 1, 0, none⟩)], .func (.func 169) #[] #[.pointer (some ⟨w.heap.size + 1, 0, none⟩)]]) ∧
      w.heap.size + 1 < w'.heap.size ∧ w'.cell? ⟨w.heap.size + 1, 0, none⟩ = some (.func (.func 163) #[] #[]) ∧ Below w.heap.size w w' := by
  go_enter Tryz.func101, Tryz.ntmps101
  go_wp2_with fail
  refine bodyPost_ret (v := .agg #[.func (.func 164) #[] #[.pointer (some ⟨w.heap.size + 1, 0, none⟩)], .func (.func 166) #[] #[.pointer (some ⟨w.heap.size + 1, 0, none⟩)], .func (.func 168) #[] #[.pointer (some ⟨w.heap.size + 1, 0, none⟩)], .func (.func 169) #[] #[.pointer (some ⟨w.heap.size + 1, 0, none⟩)]]) (by simp [results, Tryz.results101, go_sem]) rfl ?_
  exact ⟨rfl, by simp, by simp [go_sem], bto (below_alloc _ _) (below_alloc _ _)⟩

theorem canon_sum_len {a b c d : List UInt8} {i j : Nat} (ha : a.length ≤ i) (hb : b.length ≤ j) (hc : c.length ≤ i) (hd : d.length ≤ j) : (canon (val a * val b + val c * val d)).length ≤ i + j + 2 ∧ (canon (val a * val b - val c * val d)).length ≤ i + j + 2 := by
  have h1 := mul_lt10 (val_lt_of ha) (val_lt_of hb)
  have h2 := mul_lt10 (val_lt_of hc) (val_lt_of hd)
  have h3 := two_lt10 (i + j)
  rw [← Int.natAbs_mul] at h1 h2
  exact ⟨canon_len_le _ (i + j + 1) (by omega), canon_len_le _ (i + j + 1) (by omega)⟩

set_option maxHeartbeats 1000000 in
set_option maxRecDepth 100000 in
theorem apply1_any (l l' k k' : List UInt8) (m : Nat) (w : World) (hl : l.length ≤ 100000) (hl' : l'.length ≤ 100000) (hk : k.length ≤ 100000) (hk' : k'.length ≤ 100000) (hG : Glob w) (hm : m < w.heap.size) (hc : w.cell? ⟨m, 0, none⟩ = some (.func (.func 163) #[] #[])) :
    Calls Tryz.prog 100 #[.func (.func 164) #[] #[.pointer (some ⟨m, 0, none⟩)], (Value.agg #[Value.string ⟨List.toArray l⟩, Value.string ⟨List.toArray l'⟩]), (Value.agg #[Value.string ⟨List.toArray k⟩, Value.string ⟨List.toArray k'⟩])] w fun e w' => e = .returned (Value.agg #[Value.string ⟨List.toArray (fN (fv l l' + fv k k'))⟩, Value.string ⟨List.toArray (fD (fv l l' + fv k k'))⟩]) ∧ Below w.heap.size w w' := by
  have hpl := pd_len hl' (show 1 ≤ 100000 by decide)
  have hpk := pd_len hk' (show 1 ≤ 100000 by decide)
  have hv : Rat.divInt ((val l * val (pd k') + val k * val (pd l'))) ((val (pd l') * val (pd k'))) = fv l l' + fv k k' := by
    unfold fv; rw [Rat.divInt_add_divInt _ _ (den1_ne _) (den1_ne _)]; rw [val_pd, val_pd]
  have hnl : (canon ((val l * val (pd k') + val k * val (pd l')))).length ≤ 1000000 := by
    have hl' := hpl; have hk' := hpk
    exact Nat.le_trans (canon_sum_len hl hk' hk hl').1 (by decide)
  have hdl : (canon ((val (pd l') * val (pd k')))).length ≤ 1000000 := Nat.le_trans (canon_mul_len _ _) (by omega)
  have hne : val (canon ((val (pd l') * val (pd k')))) ≠ 0 := by rw [val_canon, val_pd, val_pd]; exact Int.mul_ne_zero (den1_ne _) (den1_ne _)
  have hmd : ∀ w : World, Glob w → _ := fun w hG => made_any (canon ((val l * val (pd k') + val k * val (pd l')))) (canon ((val (pd l') * val (pd k')))) w hnl hdl hG hne
  simp only [val_canon, hv] at hmd
  have hop : ∀ w : World, Glob w → _ → _ → _ := fun w hG hm hc => op1_any l (pd l') k (pd k') m w (Nat.le_trans hl (by decide)) (Nat.le_trans hpl (by decide)) (Nat.le_trans hk (by decide)) (Nat.le_trans hpk (by decide)) hG hm hc
  obtain ⟨q, hq⟩ : ∃ q, q = fv l l' + fv k k' := ⟨_, rfl⟩
  obtain ⟨N, hN⟩ : ∃ N, N = canon ((val l * val (pd k') + val k * val (pd l'))) := ⟨_, rfl⟩
  obtain ⟨D, hD⟩ : ∃ D, D = canon ((val (pd l') * val (pd k'))) := ⟨_, rfl⟩
  simp only [← hq, ← hN, ← hD] at hmd hop ⊢
  have HM := Lib.hid hmd
  have HO := Lib.hid hop
  have HC := Lib.hid hc
  clear hq hN hD hmd hop hv hnl hdl hne hc
  go_enter Tryz.func100, Tryz.ntmps100
  go_wp2_with fail
  ((with_reducible refine (parts_any l l' _ (Nat.le_trans hl' (by decide))).mono ?_); rintro e w1 ⟨rfl, hb1⟩)
  have hx0 := ((FBox.new (w.alloc (.cells #[.string ⟨l.toArray⟩, .string ⟨l'.toArray⟩] 25)) (.string ⟨k.toArray⟩) (.string ⟨k'.toArray⟩) 25).below (below_alloc _ (.cells #[.string ⟨#[]⟩, .string ⟨#[]⟩] 25))).below hb1
  have hx := (FBox.new ((w.alloc (.cells #[.string ⟨l.toArray⟩, .string ⟨l'.toArray⟩] 25)).alloc (.cells #[.string ⟨k.toArray⟩, .string ⟨k'.toArray⟩] 25)) (.string ⟨#[]⟩) (.string ⟨#[]⟩) 25).below hb1
  have hb1 := bto (bto (bto (below_alloc w (.cells #[.string ⟨l.toArray⟩, .string ⟨l'.toArray⟩] 25)) (below_alloc _ (.cells #[.string ⟨k.toArray⟩, .string ⟨k'.toArray⟩] 25))) (below_alloc _ (.cells #[.string ⟨#[]⟩, .string ⟨#[]⟩] 25))) hb1
  rw [World.size_alloc] at hx0
  rw [World.size_alloc, World.size_alloc] at hx
  have e0 := hx0.c0
  have e1 := hx0.c1
  go_wp2_with fail
  ((with_reducible refine (parts_any k k' _ (Nat.le_trans hk' (by decide))).mono ?_); rintro e w2 ⟨rfl, hb2⟩)
  have hx := hx.below hb2
  have hb2 := bto hb1 hb2
  clear e0 e1 hx0
  go_wp2_with fail
  ((with_reducible refine (HO.out _ (by exact hG.below hb2) (by exact Nat.lt_of_lt_of_le hm hb2.size) (by exact (hb2.cell (p := ⟨m, 0, none⟩) hm).trans HC.out)).mono ?_); rintro e w3 ⟨rfl, hb3⟩)
  have hx := hx.below hb3
  have hb3 := bto hb2 hb3
  go_wp2_with fail
  ((with_reducible refine (HM.out _ (by exact hG.below hb3)).mono ?_); rintro e w4 ⟨rfl, hb4⟩)
  have hx := hx.below hb4
  have hb4 := bto hb3 hb4
  have c0 := hx.c0
  have c1 := hx.c1
  have f0 := hx.f0
  have f1 := hx.f1
  go_wp2_with fail
  have hy := hx.set (.string ⟨(fN q).toArray⟩) (.string ⟨(fD q).toArray⟩)
  have d0 := hy.c0
  have d1 := hy.c1
  refine bodyPost_ret (v := (Value.agg #[Value.string ⟨List.toArray (fN q)⟩, Value.string ⟨List.toArray (fD q)⟩])) (by simp [results, Tryz.results100, go_sem, d0, d1]) rfl ?_
  exact ⟨rfl, below_set2 hb4 (by omega) _ _⟩

set_option maxHeartbeats 1000000 in
set_option maxRecDepth 100000 in
theorem apply2_any (l l' k k' : List UInt8) (m : Nat) (w : World) (hl : l.length ≤ 100000) (hl' : l'.length ≤ 100000) (hk : k.length ≤ 100000) (hk' : k'.length ≤ 100000) (hG : Glob w) (hm : m < w.heap.size) (hc : w.cell? ⟨m, 0, none⟩ = some (.func (.func 163) #[] #[])) :
    Calls Tryz.prog 100 #[.func (.func 166) #[] #[.pointer (some ⟨m, 0, none⟩)], (Value.agg #[Value.string ⟨List.toArray l⟩, Value.string ⟨List.toArray l'⟩]), (Value.agg #[Value.string ⟨List.toArray k⟩, Value.string ⟨List.toArray k'⟩])] w fun e w' => e = .returned (Value.agg #[Value.string ⟨List.toArray (fN (fv l l' - fv k k'))⟩, Value.string ⟨List.toArray (fD (fv l l' - fv k k'))⟩]) ∧ Below w.heap.size w w' := by
  have hpl := pd_len hl' (show 1 ≤ 100000 by decide)
  have hpk := pd_len hk' (show 1 ≤ 100000 by decide)
  have hv : Rat.divInt ((val l * val (pd k') - val k * val (pd l'))) ((val (pd l') * val (pd k'))) = fv l l' - fv k k' := by
    unfold fv; rw [Rat.divInt_sub_divInt _ _ (den1_ne _) (den1_ne _)]; rw [val_pd, val_pd]
  have hnl : (canon ((val l * val (pd k') - val k * val (pd l')))).length ≤ 1000000 := by
    have hl' := hpl; have hk' := hpk
    exact Nat.le_trans (canon_sum_len hl hk' hk hl').2 (by decide)
  have hdl : (canon ((val (pd l') * val (pd k')))).length ≤ 1000000 := Nat.le_trans (canon_mul_len _ _) (by omega)
  have hne : val (canon ((val (pd l') * val (pd k')))) ≠ 0 := by rw [val_canon, val_pd, val_pd]; exact Int.mul_ne_zero (den1_ne _) (den1_ne _)
  have hmd : ∀ w : World, Glob w → _ := fun w hG => made_any (canon ((val l * val (pd k') - val k * val (pd l')))) (canon ((val (pd l') * val (pd k')))) w hnl hdl hG hne
  simp only [val_canon, hv] at hmd
  have hop : ∀ w : World, Glob w → _ → _ → _ := fun w hG hm hc => op2_any l (pd l') k (pd k') m w (Nat.le_trans hl (by decide)) (Nat.le_trans hpl (by decide)) (Nat.le_trans hk (by decide)) (Nat.le_trans hpk (by decide)) hG hm hc
  obtain ⟨q, hq⟩ : ∃ q, q = fv l l' - fv k k' := ⟨_, rfl⟩
  obtain ⟨N, hN⟩ : ∃ N, N = canon ((val l * val (pd k') - val k * val (pd l'))) := ⟨_, rfl⟩
  obtain ⟨D, hD⟩ : ∃ D, D = canon ((val (pd l') * val (pd k'))) := ⟨_, rfl⟩
  simp only [← hq, ← hN, ← hD] at hmd hop ⊢
  have HM := Lib.hid hmd
  have HO := Lib.hid hop
  have HC := Lib.hid hc
  clear hq hN hD hmd hop hv hnl hdl hne hc
  go_enter Tryz.func100, Tryz.ntmps100
  go_wp2_with fail
  ((with_reducible refine (parts_any l l' _ (Nat.le_trans hl' (by decide))).mono ?_); rintro e w1 ⟨rfl, hb1⟩)
  have hx0 := ((FBox.new (w.alloc (.cells #[.string ⟨l.toArray⟩, .string ⟨l'.toArray⟩] 25)) (.string ⟨k.toArray⟩) (.string ⟨k'.toArray⟩) 25).below (below_alloc _ (.cells #[.string ⟨#[]⟩, .string ⟨#[]⟩] 25))).below hb1
  have hx := (FBox.new ((w.alloc (.cells #[.string ⟨l.toArray⟩, .string ⟨l'.toArray⟩] 25)).alloc (.cells #[.string ⟨k.toArray⟩, .string ⟨k'.toArray⟩] 25)) (.string ⟨#[]⟩) (.string ⟨#[]⟩) 25).below hb1
  have hb1 := bto (bto (bto (below_alloc w (.cells #[.string ⟨l.toArray⟩, .string ⟨l'.toArray⟩] 25)) (below_alloc _ (.cells #[.string ⟨k.toArray⟩, .string ⟨k'.toArray⟩] 25))) (below_alloc _ (.cells #[.string ⟨#[]⟩, .string ⟨#[]⟩] 25))) hb1
  rw [World.size_alloc] at hx0
  rw [World.size_alloc, World.size_alloc] at hx
  have e0 := hx0.c0
  have e1 := hx0.c1
  go_wp2_with fail
  ((with_reducible refine (parts_any k k' _ (Nat.le_trans hk' (by decide))).mono ?_); rintro e w2 ⟨rfl, hb2⟩)
  have hx := hx.below hb2
  have hb2 := bto hb1 hb2
  clear e0 e1 hx0
  go_wp2_with fail
  ((with_reducible refine (HO.out _ (by exact hG.below hb2) (by exact Nat.lt_of_lt_of_le hm hb2.size) (by exact (hb2.cell (p := ⟨m, 0, none⟩) hm).trans HC.out)).mono ?_); rintro e w3 ⟨rfl, hb3⟩)
  have hx := hx.below hb3
  have hb3 := bto hb2 hb3
  go_wp2_with fail
  ((with_reducible refine (HM.out _ (by exact hG.below hb3)).mono ?_); rintro e w4 ⟨rfl, hb4⟩)
  have hx := hx.below hb4
  have hb4 := bto hb3 hb4
  have c0 := hx.c0
  have c1 := hx.c1
  have f0 := hx.f0
  have f1 := hx.f1
  go_wp2_with fail
  have hy := hx.set (.string ⟨(fN q).toArray⟩) (.string ⟨(fD q).toArray⟩)
  have d0 := hy.c0
  have d1 := hy.c1
  refine bodyPost_ret (v := (Value.agg #[Value.string ⟨List.toArray (fN q)⟩, Value.string ⟨List.toArray (fD q)⟩])) (by simp [results, Tryz.results100, go_sem, d0, d1]) rfl ?_
  exact ⟨rfl, below_set2 hb4 (by omega) _ _⟩

set_option maxHeartbeats 1000000 in
set_option maxRecDepth 100000 in
theorem apply3_any (l l' k k' : List UInt8) (m : Nat) (w : World) (hl : l.length ≤ 100000) (hl' : l'.length ≤ 100000) (hk : k.length ≤ 100000) (hk' : k'.length ≤ 100000) (hG : Glob w) (hm : m < w.heap.size) (hc : w.cell? ⟨m, 0, none⟩ = some (.func (.func 163) #[] #[])) :
    Calls Tryz.prog 100 #[.func (.func 168) #[] #[.pointer (some ⟨m, 0, none⟩)], (Value.agg #[Value.string ⟨List.toArray l⟩, Value.string ⟨List.toArray l'⟩]), (Value.agg #[Value.string ⟨List.toArray k⟩, Value.string ⟨List.toArray k'⟩])] w fun e w' => e = .returned (Value.agg #[Value.string ⟨List.toArray (fN (fv l l' * fv k k'))⟩, Value.string ⟨List.toArray (fD (fv l l' * fv k k'))⟩]) ∧ Below w.heap.size w w' := by
  have hpl := pd_len hl' (show 1 ≤ 100000 by decide)
  have hpk := pd_len hk' (show 1 ≤ 100000 by decide)
  have hv : Rat.divInt ((val l * val k)) ((val (pd l') * val (pd k'))) = fv l l' * fv k k' := by
    unfold fv; rw [Rat.divInt_mul_divInt]; rw [val_pd, val_pd]
  have hnl : (canon ((val l * val k))).length ≤ 1000000 := by
    have hl' := hpl; have hk' := hpk
    exact Nat.le_trans (canon_mul_len _ _) (by omega)
  have hdl : (canon ((val (pd l') * val (pd k')))).length ≤ 1000000 := Nat.le_trans (canon_mul_len _ _) (by omega)
  have hne : val (canon ((val (pd l') * val (pd k')))) ≠ 0 := by rw [val_canon, val_pd, val_pd]; exact Int.mul_ne_zero (den1_ne _) (den1_ne _)
  have hmd : ∀ w : World, Glob w → _ := fun w hG => made_any (canon ((val l * val k))) (canon ((val (pd l') * val (pd k')))) w hnl hdl hG hne
  simp only [val_canon, hv] at hmd
  have hop : ∀ w : World, Glob w → _ → _ → _ := fun w hG hm hc => op3_any l (pd l') k (pd k') m w (Nat.le_trans hl (by decide)) (Nat.le_trans hpl (by decide)) (Nat.le_trans hk (by decide)) (Nat.le_trans hpk (by decide)) hG hm hc
  obtain ⟨q, hq⟩ : ∃ q, q = fv l l' * fv k k' := ⟨_, rfl⟩
  obtain ⟨N, hN⟩ : ∃ N, N = canon ((val l * val k)) := ⟨_, rfl⟩
  obtain ⟨D, hD⟩ : ∃ D, D = canon ((val (pd l') * val (pd k'))) := ⟨_, rfl⟩
  simp only [← hq, ← hN, ← hD] at hmd hop ⊢
  have HM := Lib.hid hmd
  have HO := Lib.hid hop
  have HC := Lib.hid hc
  clear hq hN hD hmd hop hv hnl hdl hne hc
  go_enter Tryz.func100, Tryz.ntmps100
  go_wp2_with fail
  ((with_reducible refine (parts_any l l' _ (Nat.le_trans hl' (by decide))).mono ?_); rintro e w1 ⟨rfl, hb1⟩)
  have hx0 := ((FBox.new (w.alloc (.cells #[.string ⟨l.toArray⟩, .string ⟨l'.toArray⟩] 25)) (.string ⟨k.toArray⟩) (.string ⟨k'.toArray⟩) 25).below (below_alloc _ (.cells #[.string ⟨#[]⟩, .string ⟨#[]⟩] 25))).below hb1
  have hx := (FBox.new ((w.alloc (.cells #[.string ⟨l.toArray⟩, .string ⟨l'.toArray⟩] 25)).alloc (.cells #[.string ⟨k.toArray⟩, .string ⟨k'.toArray⟩] 25)) (.string ⟨#[]⟩) (.string ⟨#[]⟩) 25).below hb1
  have hb1 := bto (bto (bto (below_alloc w (.cells #[.string ⟨l.toArray⟩, .string ⟨l'.toArray⟩] 25)) (below_alloc _ (.cells #[.string ⟨k.toArray⟩, .string ⟨k'.toArray⟩] 25))) (below_alloc _ (.cells #[.string ⟨#[]⟩, .string ⟨#[]⟩] 25))) hb1
  rw [World.size_alloc] at hx0
  rw [World.size_alloc, World.size_alloc] at hx
  have e0 := hx0.c0
  have e1 := hx0.c1
  go_wp2_with fail
  ((with_reducible refine (parts_any k k' _ (Nat.le_trans hk' (by decide))).mono ?_); rintro e w2 ⟨rfl, hb2⟩)
  have hx := hx.below hb2
  have hb2 := bto hb1 hb2
  clear e0 e1 hx0
  go_wp2_with fail
  ((with_reducible refine (HO.out _ (by exact hG.below hb2) (by exact Nat.lt_of_lt_of_le hm hb2.size) (by exact (hb2.cell (p := ⟨m, 0, none⟩) hm).trans HC.out)).mono ?_); rintro e w3 ⟨rfl, hb3⟩)
  have hx := hx.below hb3
  have hb3 := bto hb2 hb3
  go_wp2_with fail
  ((with_reducible refine (HM.out _ (by exact hG.below hb3)).mono ?_); rintro e w4 ⟨rfl, hb4⟩)
  have hx := hx.below hb4
  have hb4 := bto hb3 hb4
  have c0 := hx.c0
  have c1 := hx.c1
  have f0 := hx.f0
  have f1 := hx.f1
  go_wp2_with fail
  have hy := hx.set (.string ⟨(fN q).toArray⟩) (.string ⟨(fD q).toArray⟩)
  have d0 := hy.c0
  have d1 := hy.c1
  refine bodyPost_ret (v := (Value.agg #[Value.string ⟨List.toArray (fN q)⟩, Value.string ⟨List.toArray (fD q)⟩])) (by simp [results, Tryz.results100, go_sem, d0, d1]) rfl ?_
  exact ⟨rfl, below_set2 hb4 (by omega) _ _⟩

set_option maxHeartbeats 1000000 in
set_option maxRecDepth 100000 in
theorem apply4_any (l l' k k' : List UInt8) (m : Nat) (w : World) (hl : l.length ≤ 100000) (hl' : l'.length ≤ 100000) (hk : k.length ≤ 100000) (hk' : k'.length ≤ 100000) (hG : Glob w) (h0 : val k ≠ 0) (hm : m < w.heap.size) (hc : w.cell? ⟨m, 0, none⟩ = some (.func (.func 163) #[] #[])) :
    Calls Tryz.prog 100 #[.func (.func 169) #[] #[.pointer (some ⟨m, 0, none⟩)], (Value.agg #[Value.string ⟨List.toArray l⟩, Value.string ⟨List.toArray l'⟩]), (Value.agg #[Value.string ⟨List.toArray k⟩, Value.string ⟨List.toArray k'⟩])] w fun e w' => e = .returned (Value.agg #[Value.string ⟨List.toArray (fN (fv l l' / fv k k'))⟩, Value.string ⟨List.toArray (fD (fv l l' / fv k k'))⟩]) ∧ Below w.heap.size w w' := by
  have hpl := pd_len hl' (show 1 ≤ 100000 by decide)
  have hpk := pd_len hk' (show 1 ≤ 100000 by decide)
  have hv : Rat.divInt ((val l * val (pd k'))) ((val (pd l') * val k)) = fv l l' / fv k k' := by
    unfold fv; rw [Rat.div_def, Rat.inv_divInt, Rat.divInt_mul_divInt]; rw [val_pd, val_pd]
  have hnl : (canon ((val l * val (pd k')))).length ≤ 1000000 := by
    have hl' := hpl; have hk' := hpk
    exact Nat.le_trans (canon_mul_len _ _) (by omega)
  have hdl : (canon ((val (pd l') * val k))).length ≤ 1000000 := Nat.le_trans (canon_mul_len _ _) (by omega)
  have hne : val (canon ((val (pd l') * val k))) ≠ 0 := by rw [val_canon, val_pd]; exact Int.mul_ne_zero (den1_ne _) h0
  have hmd : ∀ w : World, Glob w → _ := fun w hG => made_any (canon ((val l * val (pd k')))) (canon ((val (pd l') * val k))) w hnl hdl hG hne
  simp only [val_canon, hv] at hmd
  have hop : ∀ w : World, Glob w → _ → _ → _ := fun w hG hm hc => op4_any l (pd l') k (pd k') m w (Nat.le_trans hl (by decide)) (Nat.le_trans hpl (by decide)) (Nat.le_trans hk (by decide)) (Nat.le_trans hpk (by decide)) hG hm hc
  obtain ⟨q, hq⟩ : ∃ q, q = fv l l' / fv k k' := ⟨_, rfl⟩
  obtain ⟨N, hN⟩ : ∃ N, N = canon ((val l * val (pd k'))) := ⟨_, rfl⟩
  obtain ⟨D, hD⟩ : ∃ D, D = canon ((val (pd l') * val k)) := ⟨_, rfl⟩
  simp only [← hq, ← hN, ← hD] at hmd hop ⊢
  have HM := Lib.hid hmd
  have HO := Lib.hid hop
  have HC := Lib.hid hc
  clear hq hN hD hmd hop hv hnl hdl hne hc
  go_enter Tryz.func100, Tryz.ntmps100
  go_wp2_with fail
  ((with_reducible refine (parts_any l l' _ (Nat.le_trans hl' (by decide))).mono ?_); rintro e w1 ⟨rfl, hb1⟩)
  have hx0 := ((FBox.new (w.alloc (.cells #[.string ⟨l.toArray⟩, .string ⟨l'.toArray⟩] 25)) (.string ⟨k.toArray⟩) (.string ⟨k'.toArray⟩) 25).below (below_alloc _ (.cells #[.string ⟨#[]⟩, .string ⟨#[]⟩] 25))).below hb1
  have hx := (FBox.new ((w.alloc (.cells #[.string ⟨l.toArray⟩, .string ⟨l'.toArray⟩] 25)).alloc (.cells #[.string ⟨k.toArray⟩, .string ⟨k'.toArray⟩] 25)) (.string ⟨#[]⟩) (.string ⟨#[]⟩) 25).below hb1
  have hb1 := bto (bto (bto (below_alloc w (.cells #[.string ⟨l.toArray⟩, .string ⟨l'.toArray⟩] 25)) (below_alloc _ (.cells #[.string ⟨k.toArray⟩, .string ⟨k'.toArray⟩] 25))) (below_alloc _ (.cells #[.string ⟨#[]⟩, .string ⟨#[]⟩] 25))) hb1
  rw [World.size_alloc] at hx0
  rw [World.size_alloc, World.size_alloc] at hx
  have e0 := hx0.c0
  have e1 := hx0.c1
  go_wp2_with fail
  ((with_reducible refine (parts_any k k' _ (Nat.le_trans hk' (by decide))).mono ?_); rintro e w2 ⟨rfl, hb2⟩)
  have hx := hx.below hb2
  have hb2 := bto hb1 hb2
  clear e0 e1 hx0
  go_wp2_with fail
  ((with_reducible refine (HO.out _ (by exact hG.below hb2) (by exact Nat.lt_of_lt_of_le hm hb2.size) (by exact (hb2.cell (p := ⟨m, 0, none⟩) hm).trans HC.out)).mono ?_); rintro e w3 ⟨rfl, hb3⟩)
  have hx := hx.below hb3
  have hb3 := bto hb2 hb3
  go_wp2_with fail
  ((with_reducible refine (HM.out _ (by exact hG.below hb3)).mono ?_); rintro e w4 ⟨rfl, hb4⟩)
  have hx := hx.below hb4
  have hb4 := bto hb3 hb4
  have c0 := hx.c0
  have c1 := hx.c1
  have f0 := hx.f0
  have f1 := hx.f1
  go_wp2_with fail
  have hy := hx.set (.string ⟨(fN q).toArray⟩) (.string ⟨(fD q).toArray⟩)
  have d0 := hy.c0
  have d1 := hy.c1
  refine bodyPost_ret (v := (Value.agg #[Value.string ⟨List.toArray (fN q)⟩, Value.string ⟨List.toArray (fD q)⟩])) (by simp [results, Tryz.results100, go_sem, d0, d1]) rfl ?_
  exact ⟨rfl, below_set2 hb4 (by omega) _ _⟩
end Go.Proofs.YtgnppdkeiihlfaaGreatDoor
/- Package fraction: Add, Sub, Mul, Quo. Printed by wip/tools/gen_arith.py. -/
namespace Go.Proofs.YtgnppdkeiihlfaaGreatDoor
open Go.RowKit Num

set_option maxHeartbeats 2000000 in
set_option maxRecDepth 100000 in
theorem Add_any (l l' k k' : List UInt8) (w : World) (hl : l.length ≤ 100000) (hl' : l'.length ≤ 100000) (hk : k.length ≤ 100000) (hk' : k'.length ≤ 100000) (hG : Glob w) :
    Calls Tryz.prog 38 #[(Value.agg #[Value.string ⟨List.toArray l⟩, Value.string ⟨List.toArray l'⟩]), (Value.agg #[Value.string ⟨List.toArray k⟩, Value.string ⟨List.toArray k'⟩])] w fun e w' => e = .returned ((Value.agg #[Value.string ⟨List.toArray (fN (fv l l' + fv k k'))⟩, Value.string ⟨List.toArray (fD (fv l l' + fv k k'))⟩])) ∧ Below w.heap.size w w' := by
  have hap : ∀ (m : Nat) (w : World), Glob w → _ → _ → _ := fun m w hG hm hc => apply1_any l l' k k' m w hl hl' hk hk' hG hm hc
  obtain ⟨q, hq⟩ : ∃ q, q = fv l l' + fv k k' := ⟨_, rfl⟩
  simp only [← hq] at hap ⊢
  have HA := Lib.hid hap
  clear hq hap
  have hix : ∀ (p1 p2 p3 p4 : Value) (w : World), (Instr.index 116 (.agg #[.func (.func 164) #[] #[p1], .func (.func 166) #[] #[p2], .func (.func 168) #[] #[p3], .func (.func 169) #[] #[p4]]) (.int .i64 0)).run Tryz.prog w = .ok (.func (.func 164) #[] #[p1]) w := fun _ _ _ _ _ => by kernel_rfl
  have X0 := ((FBox.new w (.string ⟨l.toArray⟩) (.string ⟨l'.toArray⟩) 25).below (below_alloc _ (.cells #[.string ⟨k.toArray⟩, .string ⟨k'.toArray⟩] 25))).below (below_alloc _ (.cells #[.string ⟨#[]⟩, .string ⟨#[]⟩] 25))
  have X1 := (FBox.new (w.alloc (.cells #[.string ⟨l.toArray⟩, .string ⟨l'.toArray⟩] 25)) (.string ⟨k.toArray⟩) (.string ⟨k'.toArray⟩) 25).below (below_alloc _ (.cells #[.string ⟨#[]⟩, .string ⟨#[]⟩] 25))
  have X2 := FBox.new ((w.alloc (.cells #[.string ⟨l.toArray⟩, .string ⟨l'.toArray⟩] 25)).alloc (.cells #[.string ⟨k.toArray⟩, .string ⟨k'.toArray⟩] 25)) (.string ⟨#[]⟩) (.string ⟨#[]⟩) 25
  have hbW := bto (below_alloc w (.cells #[.string ⟨l.toArray⟩, .string ⟨l'.toArray⟩] 25)) (bto (below_alloc _ (.cells #[.string ⟨k.toArray⟩, .string ⟨k'.toArray⟩] 25)) (below_alloc _ (.cells #[.string ⟨#[]⟩, .string ⟨#[]⟩] 25)))
  rw [World.size_alloc] at X1
  rw [World.size_alloc, World.size_alloc] at X2
  obtain ⟨W, hW⟩ : ∃ W, W = ((w.alloc (.cells #[.string ⟨l.toArray⟩, .string ⟨l'.toArray⟩] 25)).alloc (.cells #[.string ⟨k.toArray⟩, .string ⟨k'.toArray⟩] 25)).alloc (.cells #[.string ⟨#[]⟩, .string ⟨#[]⟩] 25) := ⟨_, rfl⟩
  obtain ⟨b0, hb0⟩ : ∃ b, b = w.heap.size := ⟨_, rfl⟩
  obtain ⟨b1, hb1⟩ : ∃ b, b = w.heap.size + 1 := ⟨_, rfl⟩
  obtain ⟨b2, hb2⟩ : ∃ b, b = w.heap.size + 1 + 1 := ⟨_, rfl⟩
  rw [← hW] at X0 X1 X2 hbW
  rw [← hb0] at X0
  rw [← hb1] at X1
  rw [← hb2] at X2
  have d02 : ¬ b0 = b2 := by omega
  have d12 : ¬ b1 = b2 := by omega
  have d20 : ¬ b2 = b0 := by omega
  have d21 : ¬ b2 = b1 := by omega
  have hwb : w.heap.size ≤ b2 := by omega
  have HW := Lib.hid (And.intro hW (And.intro hb0 (And.intro hb1 hb2)))
  clear hW hb0 hb1 hb2
  go_enter Tryz.func38, Tryz.ntmps38
  go_wp2_with fail
  rw [← HW.out.1, ← HW.out.2.2.2, ← HW.out.2.2.1, ← HW.out.2.1]
  have hbc := bdr W
  have x0 := X0.below hbc; have x1 := X1.below hbc; have x2 := X2.below hbc; have q0 := x0.c0; have q1 := x0.c1; have q2 := x1.c0; have q3 := x1.c1; have c0 := x2.c0; have c1 := x2.c1; have f0 := x2.f0; have f1 := x2.f1
  go_region_held3 (fun w' => w'.cell? ⟨b0, 0, none⟩ = some (.string ⟨l.toArray⟩) ∧ w'.cell? ⟨b0, 1, none⟩ = some (.string ⟨l'.toArray⟩) ∧ w'.cell? ⟨b1, 0, none⟩ = some (.string ⟨k.toArray⟩) ∧ w'.cell? ⟨b1, 1, none⟩ = some (.string ⟨k'.toArray⟩))
    (first | go_keep | (dsimp only; exact ⟨q0, q1, q2, q3⟩))
    (first
      | (go_at_call 101; (with_reducible refine Calls.mono (operations_any _) ?_); rintro e w1 ⟨rfl, hm1, hc1, hb1⟩; have hm1 : W.heap.size + 1 < w1.heap.size := hm1; have hc1 : w1.cell? ⟨W.heap.size + 1, 0, none⟩ = some (.func (.func 163) #[] #[]) := hc1; have hbc := bto hbc hb1; have x0 := X0.below hbc; have x1 := X1.below hbc; have x2 := X2.below hbc; have q0 := x0.c0; have q1 := x0.c1; have q2 := x1.c0; have q3 := x1.c1; have c0 := x2.c0; have c1 := x2.c1; have f0 := x2.f0; have f1 := x2.f1)
      | (go_at_call 100; (with_reducible refine Calls.mono (HA.out _ _ (by exact (hG.below hbW).below hbc) (by exact hm1) (by exact hc1)) ?_); rintro e w2 ⟨rfl, hb2⟩; have hbc := bto hbc hb2; have x0 := X0.below hbc; have x1 := X1.below hbc; have x2 := X2.below hbc; have q0 := x0.c0; have q1 := x0.c1; have q2 := x1.c0; have q3 := x1.c1; have c0 := x2.c0; have c1 := x2.c1; have f0 := x2.f0; have f1 := x2.f1))
  go_wp2
  have hy := x2.set (.string ⟨(fN q).toArray⟩) (.string ⟨(fD q).toArray⟩)
  have z0 := hy.c0
  have z1 := hy.c1
  refine bodyPost_ret (v := (Value.agg #[Value.string ⟨List.toArray (fN q)⟩, Value.string ⟨List.toArray (fD q)⟩])) (by simp [results, Tryz.results38, go_sem, z0, z1]) rfl ?_
  exact ⟨rfl, below_set2 (bto hbW hbc) hwb _ _⟩

set_option maxHeartbeats 2000000 in
set_option maxRecDepth 100000 in
theorem Sub_any (l l' k k' : List UInt8) (w : World) (hl : l.length ≤ 100000) (hl' : l'.length ≤ 100000) (hk : k.length ≤ 100000) (hk' : k'.length ≤ 100000) (hG : Glob w) :
    Calls Tryz.prog 41 #[(Value.agg #[Value.string ⟨List.toArray l⟩, Value.string ⟨List.toArray l'⟩]), (Value.agg #[Value.string ⟨List.toArray k⟩, Value.string ⟨List.toArray k'⟩])] w fun e w' => e = .returned ((Value.agg #[Value.string ⟨List.toArray (fN (fv l l' - fv k k'))⟩, Value.string ⟨List.toArray (fD (fv l l' - fv k k'))⟩])) ∧ Below w.heap.size w w' := by
  have hap : ∀ (m : Nat) (w : World), Glob w → _ → _ → _ := fun m w hG hm hc => apply2_any l l' k k' m w hl hl' hk hk' hG hm hc
  obtain ⟨q, hq⟩ : ∃ q, q = fv l l' - fv k k' := ⟨_, rfl⟩
  simp only [← hq] at hap ⊢
  have HA := Lib.hid hap
  clear hq hap
  have hix : ∀ (p1 p2 p3 p4 : Value) (w : World), (Instr.index 116 (.agg #[.func (.func 164) #[] #[p1], .func (.func 166) #[] #[p2], .func (.func 168) #[] #[p3], .func (.func 169) #[] #[p4]]) (.int .i64 1)).run Tryz.prog w = .ok (.func (.func 166) #[] #[p2]) w := fun _ _ _ _ _ => by kernel_rfl
  have X0 := ((FBox.new w (.string ⟨l.toArray⟩) (.string ⟨l'.toArray⟩) 25).below (below_alloc _ (.cells #[.string ⟨k.toArray⟩, .string ⟨k'.toArray⟩] 25))).below (below_alloc _ (.cells #[.string ⟨#[]⟩, .string ⟨#[]⟩] 25))
  have X1 := (FBox.new (w.alloc (.cells #[.string ⟨l.toArray⟩, .string ⟨l'.toArray⟩] 25)) (.string ⟨k.toArray⟩) (.string ⟨k'.toArray⟩) 25).below (below_alloc _ (.cells #[.string ⟨#[]⟩, .string ⟨#[]⟩] 25))
  have X2 := FBox.new ((w.alloc (.cells #[.string ⟨l.toArray⟩, .string ⟨l'.toArray⟩] 25)).alloc (.cells #[.string ⟨k.toArray⟩, .string ⟨k'.toArray⟩] 25)) (.string ⟨#[]⟩) (.string ⟨#[]⟩) 25
  have hbW := bto (below_alloc w (.cells #[.string ⟨l.toArray⟩, .string ⟨l'.toArray⟩] 25)) (bto (below_alloc _ (.cells #[.string ⟨k.toArray⟩, .string ⟨k'.toArray⟩] 25)) (below_alloc _ (.cells #[.string ⟨#[]⟩, .string ⟨#[]⟩] 25)))
  rw [World.size_alloc] at X1
  rw [World.size_alloc, World.size_alloc] at X2
  obtain ⟨W, hW⟩ : ∃ W, W = ((w.alloc (.cells #[.string ⟨l.toArray⟩, .string ⟨l'.toArray⟩] 25)).alloc (.cells #[.string ⟨k.toArray⟩, .string ⟨k'.toArray⟩] 25)).alloc (.cells #[.string ⟨#[]⟩, .string ⟨#[]⟩] 25) := ⟨_, rfl⟩
  obtain ⟨b0, hb0⟩ : ∃ b, b = w.heap.size := ⟨_, rfl⟩
  obtain ⟨b1, hb1⟩ : ∃ b, b = w.heap.size + 1 := ⟨_, rfl⟩
  obtain ⟨b2, hb2⟩ : ∃ b, b = w.heap.size + 1 + 1 := ⟨_, rfl⟩
  rw [← hW] at X0 X1 X2 hbW
  rw [← hb0] at X0
  rw [← hb1] at X1
  rw [← hb2] at X2
  have d02 : ¬ b0 = b2 := by omega
  have d12 : ¬ b1 = b2 := by omega
  have d20 : ¬ b2 = b0 := by omega
  have d21 : ¬ b2 = b1 := by omega
  have hwb : w.heap.size ≤ b2 := by omega
  have HW := Lib.hid (And.intro hW (And.intro hb0 (And.intro hb1 hb2)))
  clear hW hb0 hb1 hb2
  go_enter Tryz.func41, Tryz.ntmps41
  go_wp2_with fail
  rw [← HW.out.1, ← HW.out.2.2.2, ← HW.out.2.2.1, ← HW.out.2.1]
  have hbc := bdr W
  have x0 := X0.below hbc; have x1 := X1.below hbc; have x2 := X2.below hbc; have q0 := x0.c0; have q1 := x0.c1; have q2 := x1.c0; have q3 := x1.c1; have c0 := x2.c0; have c1 := x2.c1; have f0 := x2.f0; have f1 := x2.f1
  go_region_held3 (fun w' => w'.cell? ⟨b0, 0, none⟩ = some (.string ⟨l.toArray⟩) ∧ w'.cell? ⟨b0, 1, none⟩ = some (.string ⟨l'.toArray⟩) ∧ w'.cell? ⟨b1, 0, none⟩ = some (.string ⟨k.toArray⟩) ∧ w'.cell? ⟨b1, 1, none⟩ = some (.string ⟨k'.toArray⟩))
    (first | go_keep | (dsimp only; exact ⟨q0, q1, q2, q3⟩))
    (first
      | (go_at_call 101; (with_reducible refine Calls.mono (operations_any _) ?_); rintro e w1 ⟨rfl, hm1, hc1, hb1⟩; have hm1 : W.heap.size + 1 < w1.heap.size := hm1; have hc1 : w1.cell? ⟨W.heap.size + 1, 0, none⟩ = some (.func (.func 163) #[] #[]) := hc1; have hbc := bto hbc hb1; have x0 := X0.below hbc; have x1 := X1.below hbc; have x2 := X2.below hbc; have q0 := x0.c0; have q1 := x0.c1; have q2 := x1.c0; have q3 := x1.c1; have c0 := x2.c0; have c1 := x2.c1; have f0 := x2.f0; have f1 := x2.f1)
      | (go_at_call 100; (with_reducible refine Calls.mono (HA.out _ _ (by exact (hG.below hbW).below hbc) (by exact hm1) (by exact hc1)) ?_); rintro e w2 ⟨rfl, hb2⟩; have hbc := bto hbc hb2; have x0 := X0.below hbc; have x1 := X1.below hbc; have x2 := X2.below hbc; have q0 := x0.c0; have q1 := x0.c1; have q2 := x1.c0; have q3 := x1.c1; have c0 := x2.c0; have c1 := x2.c1; have f0 := x2.f0; have f1 := x2.f1))
  go_wp2
  have hy := x2.set (.string ⟨(fN q).toArray⟩) (.string ⟨(fD q).toArray⟩)
  have z0 := hy.c0
  have z1 := hy.c1
  refine bodyPost_ret (v := (Value.agg #[Value.string ⟨List.toArray (fN q)⟩, Value.string ⟨List.toArray (fD q)⟩])) (by simp [results, Tryz.results41, go_sem, z0, z1]) rfl ?_
  exact ⟨rfl, below_set2 (bto hbW hbc) hwb _ _⟩

set_option maxHeartbeats 2000000 in
set_option maxRecDepth 100000 in
theorem Mul_any (l l' k k' : List UInt8) (w : World) (hl : l.length ≤ 100000) (hl' : l'.length ≤ 100000) (hk : k.length ≤ 100000) (hk' : k'.length ≤ 100000) (hG : Glob w) :
    Calls Tryz.prog 39 #[(Value.agg #[Value.string ⟨List.toArray l⟩, Value.string ⟨List.toArray l'⟩]), (Value.agg #[Value.string ⟨List.toArray k⟩, Value.string ⟨List.toArray k'⟩])] w fun e w' => e = .returned ((Value.agg #[Value.string ⟨List.toArray (fN (fv l l' * fv k k'))⟩, Value.string ⟨List.toArray (fD (fv l l' * fv k k'))⟩])) ∧ Below w.heap.size w w' := by
  have hap : ∀ (m : Nat) (w : World), Glob w → _ → _ → _ := fun m w hG hm hc => apply3_any l l' k k' m w hl hl' hk hk' hG hm hc
  obtain ⟨q, hq⟩ : ∃ q, q = fv l l' * fv k k' := ⟨_, rfl⟩
  simp only [← hq] at hap ⊢
  have HA := Lib.hid hap
  clear hq hap
  have hix : ∀ (p1 p2 p3 p4 : Value) (w : World), (Instr.index 116 (.agg #[.func (.func 164) #[] #[p1], .func (.func 166) #[] #[p2], .func (.func 168) #[] #[p3], .func (.func 169) #[] #[p4]]) (.int .i64 2)).run Tryz.prog w = .ok (.func (.func 168) #[] #[p3]) w := fun _ _ _ _ _ => by kernel_rfl
  have X0 := ((FBox.new w (.string ⟨l.toArray⟩) (.string ⟨l'.toArray⟩) 25).below (below_alloc _ (.cells #[.string ⟨k.toArray⟩, .string ⟨k'.toArray⟩] 25))).below (below_alloc _ (.cells #[.string ⟨#[]⟩, .string ⟨#[]⟩] 25))
  have X1 := (FBox.new (w.alloc (.cells #[.string ⟨l.toArray⟩, .string ⟨l'.toArray⟩] 25)) (.string ⟨k.toArray⟩) (.string ⟨k'.toArray⟩) 25).below (below_alloc _ (.cells #[.string ⟨#[]⟩, .string ⟨#[]⟩] 25))
  have X2 := FBox.new ((w.alloc (.cells #[.string ⟨l.toArray⟩, .string ⟨l'.toArray⟩] 25)).alloc (.cells #[.string ⟨k.toArray⟩, .string ⟨k'.toArray⟩] 25)) (.string ⟨#[]⟩) (.string ⟨#[]⟩) 25
  have hbW := bto (below_alloc w (.cells #[.string ⟨l.toArray⟩, .string ⟨l'.toArray⟩] 25)) (bto (below_alloc _ (.cells #[.string ⟨k.toArray⟩, .string ⟨k'.toArray⟩] 25)) (below_alloc _ (.cells #[.string ⟨#[]⟩, .string ⟨#[]⟩] 25)))
  rw [World.size_alloc] at X1
  rw [World.size_alloc, World.size_alloc] at X2
  obtain ⟨W, hW⟩ : ∃ W, W = ((w.alloc (.cells #[.string ⟨l.toArray⟩, .string ⟨l'.toArray⟩] 25)).alloc (.cells #[.string ⟨k.toArray⟩, .string ⟨k'.toArray⟩] 25)).alloc (.cells #[.string ⟨#[]⟩, .string ⟨#[]⟩] 25) := ⟨_, rfl⟩
  obtain ⟨b0, hb0⟩ : ∃ b, b = w.heap.size := ⟨_, rfl⟩
  obtain ⟨b1, hb1⟩ : ∃ b, b = w.heap.size + 1 := ⟨_, rfl⟩
  obtain ⟨b2, hb2⟩ : ∃ b, b = w.heap.size + 1 + 1 := ⟨_, rfl⟩
  rw [← hW] at X0 X1 X2 hbW
  rw [← hb0] at X0
  rw [← hb1] at X1
  rw [← hb2] at X2
  have d02 : ¬ b0 = b2 := by omega
  have d12 : ¬ b1 = b2 := by omega
  have d20 : ¬ b2 = b0 := by omega
  have d21 : ¬ b2 = b1 := by omega
  have hwb : w.heap.size ≤ b2 := by omega
  have HW := Lib.hid (And.intro hW (And.intro hb0 (And.intro hb1 hb2)))
  clear hW hb0 hb1 hb2
  go_enter Tryz.func39, Tryz.ntmps39
  go_wp2_with fail
  rw [← HW.out.1, ← HW.out.2.2.2, ← HW.out.2.2.1, ← HW.out.2.1]
  have hbc := bdr W
  have x0 := X0.below hbc; have x1 := X1.below hbc; have x2 := X2.below hbc; have q0 := x0.c0; have q1 := x0.c1; have q2 := x1.c0; have q3 := x1.c1; have c0 := x2.c0; have c1 := x2.c1; have f0 := x2.f0; have f1 := x2.f1
  go_region_held3 (fun w' => w'.cell? ⟨b0, 0, none⟩ = some (.string ⟨l.toArray⟩) ∧ w'.cell? ⟨b0, 1, none⟩ = some (.string ⟨l'.toArray⟩) ∧ w'.cell? ⟨b1, 0, none⟩ = some (.string ⟨k.toArray⟩) ∧ w'.cell? ⟨b1, 1, none⟩ = some (.string ⟨k'.toArray⟩))
    (first | go_keep | (dsimp only; exact ⟨q0, q1, q2, q3⟩))
    (first
      | (go_at_call 101; (with_reducible refine Calls.mono (operations_any _) ?_); rintro e w1 ⟨rfl, hm1, hc1, hb1⟩; have hm1 : W.heap.size + 1 < w1.heap.size := hm1; have hc1 : w1.cell? ⟨W.heap.size + 1, 0, none⟩ = some (.func (.func 163) #[] #[]) := hc1; have hbc := bto hbc hb1; have x0 := X0.below hbc; have x1 := X1.below hbc; have x2 := X2.below hbc; have q0 := x0.c0; have q1 := x0.c1; have q2 := x1.c0; have q3 := x1.c1; have c0 := x2.c0; have c1 := x2.c1; have f0 := x2.f0; have f1 := x2.f1)
      | (go_at_call 100; (with_reducible refine Calls.mono (HA.out _ _ (by exact (hG.below hbW).below hbc) (by exact hm1) (by exact hc1)) ?_); rintro e w2 ⟨rfl, hb2⟩; have hbc := bto hbc hb2; have x0 := X0.below hbc; have x1 := X1.below hbc; have x2 := X2.below hbc; have q0 := x0.c0; have q1 := x0.c1; have q2 := x1.c0; have q3 := x1.c1; have c0 := x2.c0; have c1 := x2.c1; have f0 := x2.f0; have f1 := x2.f1))
  go_wp2
  have hy := x2.set (.string ⟨(fN q).toArray⟩) (.string ⟨(fD q).toArray⟩)
  have z0 := hy.c0
  have z1 := hy.c1
  refine bodyPost_ret (v := (Value.agg #[Value.string ⟨List.toArray (fN q)⟩, Value.string ⟨List.toArray (fD q)⟩])) (by simp [results, Tryz.results39, go_sem, z0, z1]) rfl ?_
  exact ⟨rfl, below_set2 (bto hbW hbc) hwb _ _⟩

set_option maxHeartbeats 2000000 in
set_option maxRecDepth 100000 in
theorem Quo_any (l l' k k' : List UInt8) (w : World) (hl : l.length ≤ 100000) (hl' : l'.length ≤ 100000) (hk : k.length ≤ 100000) (hk' : k'.length ≤ 100000) (hG : Glob w) (h0 : val k ≠ 0) :
    Calls Tryz.prog 73 #[(Value.agg #[Value.string ⟨List.toArray l⟩, Value.string ⟨List.toArray l'⟩]), (Value.agg #[Value.string ⟨List.toArray k⟩, Value.string ⟨List.toArray k'⟩])] w fun e w' => e = .returned (.tuple #[(Value.agg #[Value.string ⟨List.toArray (fN (fv l l' / fv k k'))⟩, Value.string ⟨List.toArray (fD (fv l l' / fv k k'))⟩]), .int .i64 0]) ∧ Below w.heap.size w w' := by
  have hap : ∀ (m : Nat) (w : World), Glob w → _ → _ → _ := fun m w hG hm hc => apply4_any l l' k k' m w hl hl' hk hk' hG h0 hm hc
  obtain ⟨q, hq⟩ : ∃ q, q = fv l l' / fv k k' := ⟨_, rfl⟩
  simp only [← hq] at hap ⊢
  have HA := Lib.hid hap
  clear hq hap
  have hix : ∀ (p1 p2 p3 p4 : Value) (w : World), (Instr.index 116 (.agg #[.func (.func 164) #[] #[p1], .func (.func 166) #[] #[p2], .func (.func 168) #[] #[p3], .func (.func 169) #[] #[p4]]) (.int .i64 3)).run Tryz.prog w = .ok (.func (.func 169) #[] #[p4]) w := fun _ _ _ _ _ => by kernel_rfl
  have X0 := ((FBox.new w (.string ⟨l.toArray⟩) (.string ⟨l'.toArray⟩) 25).below (below_alloc _ (.cells #[.string ⟨k.toArray⟩, .string ⟨k'.toArray⟩] 25))).below (below_alloc _ (.cells #[.string ⟨#[]⟩, .string ⟨#[]⟩] 25))
  have X1 := (FBox.new (w.alloc (.cells #[.string ⟨l.toArray⟩, .string ⟨l'.toArray⟩] 25)) (.string ⟨k.toArray⟩) (.string ⟨k'.toArray⟩) 25).below (below_alloc _ (.cells #[.string ⟨#[]⟩, .string ⟨#[]⟩] 25))
  have X2 := FBox.new ((w.alloc (.cells #[.string ⟨l.toArray⟩, .string ⟨l'.toArray⟩] 25)).alloc (.cells #[.string ⟨k.toArray⟩, .string ⟨k'.toArray⟩] 25)) (.string ⟨#[]⟩) (.string ⟨#[]⟩) 25
  have hbW := bto (below_alloc w (.cells #[.string ⟨l.toArray⟩, .string ⟨l'.toArray⟩] 25)) (bto (below_alloc _ (.cells #[.string ⟨k.toArray⟩, .string ⟨k'.toArray⟩] 25)) (below_alloc _ (.cells #[.string ⟨#[]⟩, .string ⟨#[]⟩] 25)))
  rw [World.size_alloc] at X1
  rw [World.size_alloc, World.size_alloc] at X2
  obtain ⟨W, hW⟩ : ∃ W, W = ((w.alloc (.cells #[.string ⟨l.toArray⟩, .string ⟨l'.toArray⟩] 25)).alloc (.cells #[.string ⟨k.toArray⟩, .string ⟨k'.toArray⟩] 25)).alloc (.cells #[.string ⟨#[]⟩, .string ⟨#[]⟩] 25) := ⟨_, rfl⟩
  obtain ⟨b0, hb0⟩ : ∃ b, b = w.heap.size := ⟨_, rfl⟩
  obtain ⟨b1, hb1⟩ : ∃ b, b = w.heap.size + 1 := ⟨_, rfl⟩
  obtain ⟨b2, hb2⟩ : ∃ b, b = w.heap.size + 1 + 1 := ⟨_, rfl⟩
  rw [← hW] at X0 X1 X2 hbW
  rw [← hb0] at X0
  rw [← hb1] at X1
  rw [← hb2] at X2
  have d02 : ¬ b0 = b2 := by omega
  have d12 : ¬ b1 = b2 := by omega
  have d20 : ¬ b2 = b0 := by omega
  have d21 : ¬ b2 = b1 := by omega
  have hwb : w.heap.size ≤ b2 := by omega
  have HW := Lib.hid (And.intro hW (And.intro hb0 (And.intro hb1 hb2)))
  clear hW hb0 hb1 hb2
  have hcc := cmp0 (val k)
  obtain ⟨cz, hcz⟩ : ∃ cz, cz = cmpZ (val k) (val []) := ⟨_, rfl⟩
  have hcz0 : (cz == 0) = false := by rw [hcz, hcc]; by_cases h1 : val k < 0 <;> simp [h1]; omega
  have HC := Lib.hid hcz
  clear hcz hcc h0
  go_enter Tryz.func73, Tryz.ntmps73
  go_wp2_with fail
  rw [← HW.out.1, ← HW.out.2.2.2, ← HW.out.2.2.1, ← HW.out.2.1]
  ((with_reducible refine (icompare_any k [] _ (Nat.le_trans hk (by decide)) (by decide)).mono ?_); rintro e w0 ⟨rfl, hb⟩)
  rw [← HC.out]
  have X0 := X0.below hb
  have X1 := X1.below hb
  have X2 := X2.below hb
  have hbW := bto hbW hb
  go_wp2_with fail
  have hbc := bdr w0
  have x0 := X0.below hbc; have x1 := X1.below hbc; have x2 := X2.below hbc; have q0 := x0.c0; have q1 := x0.c1; have q2 := x1.c0; have q3 := x1.c1; have c0 := x2.c0; have c1 := x2.c1; have f0 := x2.f0; have f1 := x2.f1
  go_region_held3 (fun w' => w'.cell? ⟨b0, 0, none⟩ = some (.string ⟨l.toArray⟩) ∧ w'.cell? ⟨b0, 1, none⟩ = some (.string ⟨l'.toArray⟩) ∧ w'.cell? ⟨b1, 0, none⟩ = some (.string ⟨k.toArray⟩) ∧ w'.cell? ⟨b1, 1, none⟩ = some (.string ⟨k'.toArray⟩))
    (first | go_keep | (dsimp only; exact ⟨q0, q1, q2, q3⟩))
    (first
      | (go_at_call 101; (with_reducible refine Calls.mono (operations_any _) ?_); rintro e w1 ⟨rfl, hm1, hc1, hb1⟩; have hm1 : w0.heap.size + 1 < w1.heap.size := hm1; have hc1 : w1.cell? ⟨w0.heap.size + 1, 0, none⟩ = some (.func (.func 163) #[] #[]) := hc1; have hbc := bto hbc hb1; have x0 := X0.below hbc; have x1 := X1.below hbc; have x2 := X2.below hbc; have q0 := x0.c0; have q1 := x0.c1; have q2 := x1.c0; have q3 := x1.c1; have c0 := x2.c0; have c1 := x2.c1; have f0 := x2.f0; have f1 := x2.f1)
      | (go_at_call 100; (with_reducible refine Calls.mono (HA.out _ _ (by exact (hG.below hbW).below hbc) (by exact hm1) (by exact hc1)) ?_); rintro e w2 ⟨rfl, hb2⟩; have hbc := bto hbc hb2; have x0 := X0.below hbc; have x1 := X1.below hbc; have x2 := X2.below hbc; have q0 := x0.c0; have q1 := x0.c1; have q2 := x1.c0; have q3 := x1.c1; have c0 := x2.c0; have c1 := x2.c1; have f0 := x2.f0; have f1 := x2.f1))
  go_wp2
  have hy := x2.set (.string ⟨(fN q).toArray⟩) (.string ⟨(fD q).toArray⟩)
  have z0 := hy.c0
  have z1 := hy.c1
  refine bodyPost_ret (v := .tuple #[(Value.agg #[Value.string ⟨List.toArray (fN q)⟩, Value.string ⟨List.toArray (fD q)⟩]), .int .i64 0]) (by simp [results, Tryz.results73, go_sem, z0, z1]) rfl ?_
  exact ⟨rfl, below_set2 (bto hbW hbc) hwb _ _⟩
end Go.Proofs.YtgnppdkeiihlfaaGreatDoor
/- Package fraction: Quo by zero, Compare, Floor, Check. -/
namespace Go.Proofs.YtgnppdkeiihlfaaGreatDoor
open Go.RowKit Num

set_option maxHeartbeats 1000000 in
set_option maxRecDepth 100000 in
theorem Quo_zero (l l' k k' : List UInt8) (w : World) (hk : k.length ≤ 100000) (h0 : val k = 0) :
    Calls Tryz.prog 73 #[(Value.agg #[Value.string ⟨List.toArray l⟩, Value.string ⟨List.toArray l'⟩]), (Value.agg #[Value.string ⟨List.toArray k⟩, Value.string ⟨List.toArray k'⟩])] w fun e w' => e = .returned (.tuple #[.agg #[.string ⟨#[]⟩, .string ⟨#[]⟩], .int .i64 10]) ∧ Below w.heap.size w w' := by
  have hc := cmp0 (val k)
  have hc : cmpZ (val k) (val []) = 0 := by rw [hc]; simp [h0]
  have HC := Lib.hid hc
  clear hc h0
  go_enter Tryz.func73, Tryz.ntmps73
  go_wp2_with fail
  ((with_reducible refine (icompare_any k [] _ (Nat.le_trans hk (by decide)) (by decide)).mono ?_); rintro e w1 ⟨rfl, hb1⟩)
  rw [HC.out]
  have hx := (FBox.new ((w.alloc (.cells #[.string ⟨l.toArray⟩, .string ⟨l'.toArray⟩] 25)).alloc (.cells #[.string ⟨k.toArray⟩, .string ⟨k'.toArray⟩] 25)) (.string ⟨#[]⟩) (.string ⟨#[]⟩) 25).below hb1
  have hb1 := bto (bto (bto (below_alloc w (.cells #[.string ⟨l.toArray⟩, .string ⟨l'.toArray⟩] 25)) (below_alloc _ (.cells #[.string ⟨k.toArray⟩, .string ⟨k'.toArray⟩] 25))) (below_alloc _ (.cells #[.string ⟨#[]⟩, .string ⟨#[]⟩] 25))) hb1
  rw [World.size_alloc, World.size_alloc] at hx
  have c0 := hx.c0
  have c1 := hx.c1
  have f0 := hx.f0
  have f1 := hx.f1
  go_wp2_with fail
  have hy := hx.set (.string ⟨#[]⟩) (.string ⟨#[]⟩)
  have d0 := hy.c0
  have d1 := hy.c1
  refine bodyPost_ret (v := .tuple #[.agg #[.string ⟨#[]⟩, .string ⟨#[]⟩], .int .i64 10]) (by simp [results, Tryz.results73, go_sem, d0, d1]) rfl ?_
  exact ⟨rfl, below_set2 hb1 (by omega) _ _⟩

/-- what Compare returns -/
def cmpQ (p q : Rat) : Int := cmpZ (p - q).num 0
theorem frac_len {l l' k k' : List UInt8} {i : Nat} (h1 : l.length ≤ i) (h2 : l'.length ≤ i) (h3 : k.length ≤ i) (h4 : k'.length ≤ i) (hi : 1 ≤ i) : (fN (fv l l' - fv k k')).length ≤ 2 * i + 2 ∧ (fD (fv l l' - fv k k')).length ≤ 2 * i + 2 := by
  have h := bd_len (bd_sub (bd_fv h1 h2 hi) (bd_fv h3 h4 hi))
  omega
set_option maxHeartbeats 1000000 in
set_option maxRecDepth 100000 in
theorem Compare_any (l l' k k' : List UInt8) (w : World) (hl : l.length ≤ 100000) (hl' : l'.length ≤ 100000) (hk : k.length ≤ 100000) (hk' : k'.length ≤ 100000) (hG : Glob w) :
    Calls Tryz.prog 21 #[(Value.agg #[Value.string ⟨List.toArray l⟩, Value.string ⟨List.toArray l'⟩]), (Value.agg #[Value.string ⟨List.toArray k⟩, Value.string ⟨List.toArray k'⟩])] w fun e w' => e = .returned (.int .i64 (cmpQ (fv l l') (fv k k'))) ∧ Below w.heap.size w w' := by
  have hs : ∀ w : World, Glob w → _ := fun w hG => Sub_any l l' k k' w hl hl' hk hk' hG
  have hlen := frac_len hl hl' hk hk' (by decide)
  have hcz : cmpQ (fv l l') (fv k k') = cmpZ (val (fN (fv l l' - fv k k'))) (val []) := by unfold cmpQ; rw [val_fN, val_nil]
  rw [hcz]
  obtain ⟨q, hq⟩ : ∃ q, q = fv l l' - fv k k' := ⟨_, rfl⟩
  simp only [← hq] at hs hlen ⊢
  have HS := Lib.hid hs
  clear hq hs hcz
  go_enter Tryz.func21, Tryz.ntmps21
  go_wp2_with fail
  have hb0 := bto (below_alloc w (.cells #[.string ⟨l.toArray⟩, .string ⟨l'.toArray⟩] 25)) (below_alloc _ (.cells #[.string ⟨k.toArray⟩, .string ⟨k'.toArray⟩] 25))
  ((with_reducible refine (HS.out _ (by exact hG.below hb0)).mono ?_); rintro e w1 ⟨rfl, hb1⟩)
  have hb1 := bto hb0 hb1
  go_wp2_with fail
  ((with_reducible refine (parts_any _ _ _ (by exact Nat.le_trans hlen.2 (by decide))).mono ?_); rintro e w2 ⟨rfl, hb2⟩)
  have hb2 := bto hb1 hb2
  go_wp2_with fail
  ((with_reducible refine (icompare_any _ [] _ (by exact Nat.le_trans hlen.1 (by decide)) (by decide)).mono ?_); rintro e w3 ⟨rfl, hb3⟩)
  have hb3 := bto hb2 hb3
  go_wp2
  go_ret
  exact ⟨rfl, hb3⟩

set_option maxHeartbeats 1000000 in
set_option maxRecDepth 100000 in
theorem Check_any (l l' : List UInt8) (w : World) (hl : l.length ≤ 100000) (hl' : l'.length ≤ 100000) (hG : Glob w) :
    Calls Tryz.prog 145 #[(Value.agg #[Value.string ⟨List.toArray l⟩, Value.string ⟨List.toArray l'⟩])] w fun e w' => e = .returned (.int .i64 (if l = fN (fv l l') ∧ l' = fD (fv l l') then 0 else 1)) ∧ Below w.heap.size w w' := by
  have hm : ∀ w : World, Glob w → _ := fun w hG => made_fv l l' w (Nat.le_trans hl (by decide)) (Nat.le_trans hl' (by decide)) hG
  obtain ⟨q, hq⟩ : ∃ q, q = fv l l' := ⟨_, rfl⟩
  simp only [← hq] at hm ⊢
  have HM := Lib.hid hm
  clear hq hm
  have X0 := FBox.new w (.string ⟨l.toArray⟩) (.string ⟨l'.toArray⟩) 25
  have hbW := below_alloc w (.cells #[.string ⟨l.toArray⟩, .string ⟨l'.toArray⟩] 25)
  obtain ⟨W, hW⟩ : ∃ W, W = w.alloc (.cells #[.string ⟨l.toArray⟩, .string ⟨l'.toArray⟩] 25) := ⟨_, rfl⟩
  rw [← hW] at X0 hbW
  have HW := Lib.hid hW
  clear hW
  have hbc := bdr W
  have x0 := X0.below hbc
  have q0 := x0.c0
  have q1 := x0.c1
  by_cases h : l = fN q ∧ l' = fD q
  · rw [if_pos h]
    have h1 : (l == fN q) = true := by rw [beq_iff_eq]; exact h.1
    have h2 : (l' == fD q) = true := by rw [beq_iff_eq]; exact h.2
    clear h
    go_enter Tryz.func145, Tryz.ntmps145
    go_wp2_with fail
    rw [← HW.out]
    go_region_held3 (fun w' => w'.cell? ⟨w.heap.size, 0, none⟩ = some (.string ⟨l.toArray⟩) ∧ w'.cell? ⟨w.heap.size, 1, none⟩ = some (.string ⟨l'.toArray⟩))
      (first | go_keep | (dsimp only; exact ⟨q0, q1⟩))
      (first
        | (go_at_call 69; (with_reducible refine Calls.mono (parts_any l l' _ (Nat.le_trans hl' (by decide))) ?_); rintro e w1 ⟨rfl, hb1⟩; have hbc := bto hbc hb1; have x0 := X0.below hbc; have q0 := x0.c0; have q1 := x0.c1)
        | (go_at_call 102; (with_reducible refine Calls.mono (HM.out _ (by exact (hG.below hbW).below hbc)) ?_); rintro e w1 ⟨rfl, hb1⟩; have hbc := bto hbc hb1; have x0 := X0.below hbc; have q0 := x0.c0; have q1 := x0.c1))
    go_wp2
    go_ret
    exact ⟨rfl, bto hbW hbc⟩
  · rw [if_neg h]
    by_cases h3 : l = fN q
    · have h1 : (l == fN q) = true := by rw [beq_iff_eq]; exact h3
      have h2 : (l' == fD q) = false := by rw [beq_eq_false_iff_ne]; exact fun e => h ⟨h3, e⟩
      clear h h3
      go_enter Tryz.func145, Tryz.ntmps145
      go_wp2_with fail
      rw [← HW.out]
      go_region_held3 (fun w' => w'.cell? ⟨w.heap.size, 0, none⟩ = some (.string ⟨l.toArray⟩) ∧ w'.cell? ⟨w.heap.size, 1, none⟩ = some (.string ⟨l'.toArray⟩))
        (first | go_keep | (dsimp only; exact ⟨q0, q1⟩))
        (first
          | (go_at_call 69; (with_reducible refine Calls.mono (parts_any l l' _ (Nat.le_trans hl' (by decide))) ?_); rintro e w1 ⟨rfl, hb1⟩; have hbc := bto hbc hb1; have x0 := X0.below hbc; have q0 := x0.c0; have q1 := x0.c1)
          | (go_at_call 102; (with_reducible refine Calls.mono (HM.out _ (by exact (hG.below hbW).below hbc)) ?_); rintro e w1 ⟨rfl, hb1⟩; have hbc := bto hbc hb1; have x0 := X0.below hbc; have q0 := x0.c0; have q1 := x0.c1))
      go_wp2
      go_ret
      exact ⟨rfl, bto hbW hbc⟩
    · have h1 : (l == fN q) = false := by rw [beq_eq_false_iff_ne]; exact h3
      clear h h3
      go_enter Tryz.func145, Tryz.ntmps145
      go_wp2_with fail
      rw [← HW.out]
      go_region_held3 (fun w' => w'.cell? ⟨w.heap.size, 0, none⟩ = some (.string ⟨l.toArray⟩) ∧ w'.cell? ⟨w.heap.size, 1, none⟩ = some (.string ⟨l'.toArray⟩))
        (first | go_keep | (dsimp only; exact ⟨q0, q1⟩))
        (first
          | (go_at_call 69; (with_reducible refine Calls.mono (parts_any l l' _ (Nat.le_trans hl' (by decide))) ?_); rintro e w1 ⟨rfl, hb1⟩; have hbc := bto hbc hb1; have x0 := X0.below hbc; have q0 := x0.c0; have q1 := x0.c1)
          | (go_at_call 102; (with_reducible refine Calls.mono (HM.out _ (by exact (hG.below hbW).below hbc)) ?_); rintro e w1 ⟨rfl, hb1⟩; have hbc := bto hbc hb1; have x0 := X0.below hbc; have q0 := x0.c0; have q1 := x0.c1))
      go_wp2
      go_ret
      exact ⟨rfl, bto hbW hbc⟩
end Go.Proofs.YtgnppdkeiihlfaaGreatDoor
/- Package fraction: Print, Power. -/
namespace Go.Proofs.YtgnppdkeiihlfaaGreatDoor
open Go.RowKit Num

theorem Parts_len {l l' : List UInt8} {i : Nat} (h1 : l.length ≤ i) (h2 : l'.length ≤ i) (hi : 1 ≤ i) : (fN (fv l l')).length ≤ i + 1 ∧ (canon ((fv l l').den : Int)).length ≤ i + 1 := by
  have h := bd_fv h1 h2 hi
  exact ⟨canon_len_le _ _ h.1, canon_len_le _ _ (by simpa using h.2)⟩
/-- the text of a number -/
def printZ (z : Int) : List UInt8 := if z = 0 then [48] else canon z
theorem printL_canon (z : Int) : printL (canon z) = printZ z := by unfold printL printZ; rw [val_canon]
theorem printL_len (l : List UInt8) : (printL l).length ≤ l.length + 1 := by
  unfold printL; split
  · simp
  · exact canon_len_le _ _ (val_lt l)
def printQ (q : Rat) : List UInt8 := if q.den = 1 then printZ q.num else printZ q.num ++ 47 :: printZ (q.den : Int)

end Go.Proofs.YtgnppdkeiihlfaaGreatDoor
/- Package fraction: Power. -/
namespace Go.Proofs.YtgnppdkeiihlfaaGreatDoor
open Go.RowKit Num

theorem pow_lt10 {a i : Nat} (h : a < 10 ^ i) (n : Nat) : a ^ n < 10 ^ (i * n + 1) := by
  induction n with
  | zero => simp
  | succ n ih =>
    rw [Nat.pow_succ, show i * (n + 1) + 1 = (i * n + 1) + i by rw [Nat.mul_add, Nat.mul_one]; omega]
    exact mul_lt10 ih h
theorem canon_pow_len {z : Int} {i : Nat} (h : z.natAbs < 10 ^ i) (n : Nat) : (canon (z ^ n)).length ≤ i * n + 2 :=
  canon_len_le _ _ (by rw [Int.natAbs_pow]; exact pow_lt10 h n)
theorem pow_frac (q : Rat) (n : Nat) : Rat.divInt (q.num ^ n) ((q.den : Int) ^ n) = q ^ n := by
  have := Rat.num_divInt_den (q ^ n)
  rwa [Rat.num_pow, Rat.den_pow, Int.natCast_pow] at this
theorem pow_inv (q : Rat) (n : Nat) : Rat.divInt ((q.den : Int) ^ n) (q.num ^ n) = (q ^ n)⁻¹ := by
  rw [← Rat.inv_divInt, pow_frac]

set_option maxHeartbeats 1000000 in
set_option maxRecDepth 100000 in
theorem Power_bad (l l' : List UInt8) (n : Int) (w : World) (h : n < -400 ∨ 400 < n) :
    Calls Tryz.prog 178 #[(Value.agg #[Value.string ⟨List.toArray l⟩, Value.string ⟨List.toArray l'⟩]), .int .i64 n] w fun e w' => e = .returned (.tuple #[.agg #[.string ⟨#[]⟩, .string ⟨#[]⟩], .int .i64 2]) ∧ Below w.heap.size w w' := by
  by_cases h1 : n < -400
  · have h2 : decide (n < -400) = true := by simp [h1]
    clear h h1
    have hb := bto (below_alloc w (.cells #[.string ⟨l.toArray⟩, .string ⟨l'.toArray⟩] 25)) (below_alloc _ (.cells #[.string ⟨#[]⟩, .string ⟨#[]⟩] 25))
    go_enter Tryz.func178, Tryz.ntmps178
    go_wp2_with fail
    refine bodyPost_ret (v := .tuple #[.agg #[.string ⟨#[]⟩, .string ⟨#[]⟩], .int .i64 2]) (by simp [results, Tryz.results178, go_sem]) rfl ?_
    exact ⟨rfl, hb⟩
  · have h2 : decide (n < -400) = false := by simp; omega
    have h3 : decide (400 < n) = true := by simp; omega
    clear h h1
    have hb := bto (below_alloc w (.cells #[.string ⟨l.toArray⟩, .string ⟨l'.toArray⟩] 25)) (below_alloc _ (.cells #[.string ⟨#[]⟩, .string ⟨#[]⟩] 25))
    go_enter Tryz.func178, Tryz.ntmps178
    go_wp2_with fail
    refine bodyPost_ret (v := .tuple #[.agg #[.string ⟨#[]⟩, .string ⟨#[]⟩], .int .i64 2]) (by simp [results, Tryz.results178, go_sem]) rfl ?_
    exact ⟨rfl, hb⟩

set_option maxHeartbeats 1000000 in
set_option maxRecDepth 100000 in
theorem Power_pos (l l' : List UInt8) (n : Nat) (w : World) (hl : l.length ≤ 1000) (hl' : l'.length ≤ 1000) (hn : n ≤ 400) (hG : Glob w) :
    Calls Tryz.prog 178 #[(Value.agg #[Value.string ⟨List.toArray l⟩, Value.string ⟨List.toArray l'⟩]), .int .i64 (n : Int)] w fun e w' => e = .returned (.tuple #[(Value.agg #[Value.string ⟨List.toArray (fN ((fv l l') ^ n))⟩, Value.string ⟨List.toArray (fD ((fv l l') ^ n))⟩]), .int .i64 0]) ∧ Below w.heap.size w w' := by
  have hp : ∀ w : World, Glob w → _ := fun w hG => Parts_any l l' w (Nat.le_trans hl (by decide)) (Nat.le_trans hl' (by decide)) hG
  have hlen := Parts_len hl hl' (by decide)
  have hbd := bd_fv hl hl' (by decide)
  obtain ⟨q, hq⟩ : ∃ q, q = fv l l' := ⟨_, rfl⟩
  simp only [← hq] at hp hlen hbd ⊢
  clear hq
  have hi1 : ∀ w : World, Glob w → _ := fun w hG => ipower_any (fN q) n w (Nat.le_trans hlen.1 (by decide)) hn hG
  have hi2 : ∀ w : World, Glob w → _ := fun w hG => ipower_any (canon (q.den : Int)) n w (Nat.le_trans hlen.2 (by decide)) hn hG
  have hbd2 : ((q.den : Int)).natAbs < 10 ^ 1000 := by rw [Int.natAbs_natCast]; exact hbd.2
  have hmul : 1000 * n ≤ 1000 * 400 := Nat.mul_le_mul_left _ hn
  have l1 : (canon (q.num ^ n)).length ≤ 1000000 := Nat.le_trans (canon_pow_len hbd.1 n) (by omega)
  have l2 : (canon ((q.den : Int) ^ n)).length ≤ 1000000 := Nat.le_trans (canon_pow_len hbd2 n) (by omega)
  have hm : ∀ w : World, Glob w → _ := fun w hG => made_any (canon (q.num ^ n)) (canon ((q.den : Int) ^ n)) w l1 l2 hG (by rw [val_canon]; exact Int.pow_ne_zero (by have := q.den_nz; omega))
  rw [val_fN] at hi1
  rw [val_canon] at hi2
  simp only [val_canon, pow_frac] at hm
  obtain ⟨r, hr⟩ : ∃ r, r = q ^ n := ⟨_, rfl⟩
  obtain ⟨N, hN⟩ : ∃ N, N = fN q := ⟨_, rfl⟩
  obtain ⟨D, hD⟩ : ∃ D, D = canon (q.den : Int) := ⟨_, rfl⟩
  obtain ⟨X, hX⟩ : ∃ X, X = canon (q.num ^ n) := ⟨_, rfl⟩
  obtain ⟨Y, hY⟩ : ∃ Y, Y = canon ((q.den : Int) ^ n) := ⟨_, rfl⟩
  simp only [← hX, ← hY, ← hr, ← hN, ← hD] at hp hm hi1 hi2 ⊢
  have k1 : decide ((n : Int) < -400) = false := decide_eq_false (by omega)
  have k2 : decide (400 < (n : Int)) = false := decide_eq_false (by omega)
  have k3 : decide ((n : Int) < 0) = false := decide_eq_false (by omega)
  have HP := Lib.hid hp
  have HM := Lib.hid hm
  have H1 := Lib.hid hi1
  have H2 := Lib.hid hi2
  clear hr hN hD hX hY hp hm hi1 hi2 l1 l2 hmul hbd2 hbd hlen
  have hx := (FBox.new (w.alloc (.cells #[.string ⟨l.toArray⟩, .string ⟨l'.toArray⟩] 25)) (.string ⟨#[]⟩) (.string ⟨#[]⟩) 25)
  have hb := bto (below_alloc w (.cells #[.string ⟨l.toArray⟩, .string ⟨l'.toArray⟩] 25)) (below_alloc _ (.cells #[.string ⟨#[]⟩, .string ⟨#[]⟩] 25))
  rw [World.size_alloc] at hx
  go_enter Tryz.func178, Tryz.ntmps178
  go_wp2_with fail
  ((with_reducible refine (HP.out _ (by exact hG.below hb)).mono ?_); rintro e w1 ⟨rfl, hb1⟩)
  have hx := hx.below hb1
  have hb := bto hb hb1
  go_wp2_with fail
  ((with_reducible refine (H1.out _ (by exact hG.below hb)).mono ?_); rintro e w2 ⟨rfl, hb2⟩)
  have hx := hx.below hb2
  have hb := bto hb hb2
  go_wp2_with fail
  ((with_reducible refine (H2.out _ (by exact hG.below hb)).mono ?_); rintro e w3 ⟨rfl, hb3⟩)
  have hx := hx.below hb3
  have hb := bto hb hb3
  go_wp2_with fail
  ((with_reducible refine (HM.out _ (by exact hG.below hb)).mono ?_); rintro e w4 ⟨rfl, hb4⟩)
  have hx := hx.below hb4
  have hb := bto hb hb4
  have c0 := hx.c0
  have c1 := hx.c1
  have f0 := hx.f0
  have f1 := hx.f1
  go_wp2_with fail
  have hy := hx.set (.string ⟨(fN r).toArray⟩) (.string ⟨(fD r).toArray⟩)
  have d0 := hy.c0
  have d1 := hy.c1
  refine bodyPost_ret (v := .tuple #[(Value.agg #[Value.string ⟨List.toArray (fN r)⟩, Value.string ⟨List.toArray (fD r)⟩]), .int .i64 0]) (by simp [results, Tryz.results178, go_sem, d0, d1]) rfl ?_
  exact ⟨rfl, below_set2 hb (Nat.le_add_right _ _) _ _⟩

set_option maxHeartbeats 1000000 in
set_option maxRecDepth 100000 in
theorem Power_neg (l l' : List UInt8) (n : Nat) (w : World) (hl : l.length ≤ 1000) (hl' : l'.length ≤ 1000) (hn : n ≤ 400) (hn0 : 0 < n) (h0 : (fv l l') ≠ 0) (hG : Glob w) :
    Calls Tryz.prog 178 #[(Value.agg #[Value.string ⟨List.toArray l⟩, Value.string ⟨List.toArray l'⟩]), .int .i64 (-(n : Int))] w fun e w' => e = .returned (.tuple #[(Value.agg #[Value.string ⟨List.toArray (fN (((fv l l') ^ n)⁻¹))⟩, Value.string ⟨List.toArray (fD (((fv l l') ^ n)⁻¹))⟩]), .int .i64 0]) ∧ Below w.heap.size w w' := by
  have hp : ∀ w : World, Glob w → _ := fun w hG => Parts_any l l' w (Nat.le_trans hl (by decide)) (Nat.le_trans hl' (by decide)) hG
  have hlen := Parts_len hl hl' (by decide)
  have hbd := bd_fv hl hl' (by decide)
  obtain ⟨q, hq⟩ : ∃ q, q = fv l l' := ⟨_, rfl⟩
  simp only [← hq] at hp hlen hbd h0 ⊢
  clear hq
  have hi1 : ∀ w : World, Glob w → _ := fun w hG => ipower_any (canon (q.den : Int)) n w (Nat.le_trans hlen.2 (by decide)) hn hG
  have hi2 : ∀ w : World, Glob w → _ := fun w hG => ipower_any (fN q) n w (Nat.le_trans hlen.1 (by decide)) hn hG
  have hbd2 : ((q.den : Int)).natAbs < 10 ^ 1000 := by rw [Int.natAbs_natCast]; exact hbd.2
  have hmul : 1000 * n ≤ 1000 * 400 := Nat.mul_le_mul_left _ hn
  have l1 : (canon ((q.den : Int) ^ n)).length ≤ 1000000 := Nat.le_trans (canon_pow_len hbd2 n) (by omega)
  have l2 : (canon (q.num ^ n)).length ≤ 1000000 := Nat.le_trans (canon_pow_len hbd.1 n) (by omega)
  have hm : ∀ w : World, Glob w → _ := fun w hG => made_any (canon ((q.den : Int) ^ n)) (canon (q.num ^ n)) w l1 l2 hG (by rw [val_canon]; exact Int.pow_ne_zero (fun e => h0 (Rat.num_eq_zero.1 e)))
  rw [val_canon] at hi1
  rw [val_fN] at hi2
  simp only [val_canon, pow_inv] at hm
  obtain ⟨r, hr⟩ : ∃ r, r = (q ^ n)⁻¹ := ⟨_, rfl⟩
  obtain ⟨N, hN⟩ : ∃ N, N = fN q := ⟨_, rfl⟩
  obtain ⟨D, hD⟩ : ∃ D, D = canon (q.den : Int) := ⟨_, rfl⟩
  obtain ⟨X, hX⟩ : ∃ X, X = canon ((q.den : Int) ^ n) := ⟨_, rfl⟩
  obtain ⟨Y, hY⟩ : ∃ Y, Y = canon (q.num ^ n) := ⟨_, rfl⟩
  simp only [← hX, ← hY, ← hr, ← hN, ← hD] at hp hm hi1 hi2 ⊢
  have hN0 : (N == []) = false := by
    rw [beq_eq_false_iff_ne, hN]
    exact fun e => h0 (Rat.num_eq_zero.1 ((canon_eq_nil _).1 e))
  have hN1 : ¬ N = [] := by simpa using hN0
  have hN2 : N.isEmpty = false := by simpa using hN1
  have k1 : decide (400 < (n : Int)) = false := decide_eq_false (by omega)
  have k3 : decide (0 < n) = true := decide_eq_true hn0
  have HP := Lib.hid hp
  have HM := Lib.hid hm
  have H1 := Lib.hid hi1
  have H2 := Lib.hid hi2
  clear hr hN hD hX hY hp hm hi1 hi2 l1 l2 hmul hbd2 hbd hlen h0 hn0
  have hx := (FBox.new (w.alloc (.cells #[.string ⟨l.toArray⟩, .string ⟨l'.toArray⟩] 25)) (.string ⟨#[]⟩) (.string ⟨#[]⟩) 25)
  have hb := bto (below_alloc w (.cells #[.string ⟨l.toArray⟩, .string ⟨l'.toArray⟩] 25)) (below_alloc _ (.cells #[.string ⟨#[]⟩, .string ⟨#[]⟩] 25))
  rw [World.size_alloc] at hx
  go_enter Tryz.func178, Tryz.ntmps178
  go_wp2_with fail
  ((with_reducible refine (HP.out _ (by exact hG.below hb)).mono ?_); rintro e w1 ⟨rfl, hb1⟩)
  have hx := hx.below hb1
  have hb := bto hb hb1
  go_wp2_with fail
  ((with_reducible refine (H1.out _ (by exact hG.below hb)).mono ?_); rintro e w2 ⟨rfl, hb2⟩)
  have hx := hx.below hb2
  have hb := bto hb hb2
  go_wp2_with fail
  ((with_reducible refine (H2.out _ (by exact hG.below hb)).mono ?_); rintro e w3 ⟨rfl, hb3⟩)
  have hx := hx.below hb3
  have hb := bto hb hb3
  go_wp2_with fail
  ((with_reducible refine (HM.out _ (by exact hG.below hb)).mono ?_); rintro e w4 ⟨rfl, hb4⟩)
  have hx := hx.below hb4
  have hb := bto hb hb4
  have c0 := hx.c0
  have c1 := hx.c1
  have f0 := hx.f0
  have f1 := hx.f1
  go_wp2_with fail
  have hy := hx.set (.string ⟨(fN r).toArray⟩) (.string ⟨(fD r).toArray⟩)
  have d0 := hy.c0
  have d1 := hy.c1
  refine bodyPost_ret (v := .tuple #[(Value.agg #[Value.string ⟨List.toArray (fN r)⟩, Value.string ⟨List.toArray (fD r)⟩]), .int .i64 0]) (by simp [results, Tryz.results178, go_sem, d0, d1]) rfl ?_
  exact ⟨rfl, below_set2 hb (Nat.le_add_right _ _) _ _⟩

set_option maxHeartbeats 1000000 in
set_option maxRecDepth 100000 in
theorem Power_zero (l l' : List UInt8) (n : Int) (w : World) (hl : l.length ≤ 1000) (hl' : l'.length ≤ 1000) (hn : -400 ≤ n) (hn0 : n < 0) (h0 : fv l l' = 0) (hG : Glob w) :
    Calls Tryz.prog 178 #[(Value.agg #[Value.string ⟨List.toArray l⟩, Value.string ⟨List.toArray l'⟩]), .int .i64 n] w fun e w' => e = .returned (.tuple #[.agg #[.string ⟨#[]⟩, .string ⟨#[]⟩], .int .i64 10]) ∧ Below w.heap.size w w' := by
  have hp : ∀ w : World, Glob w → _ := fun w hG => Parts_any l l' w (Nat.le_trans hl (by decide)) (Nat.le_trans hl' (by decide)) hG
  have hN : fN (fv l l') = [] := by rw [h0]; decide
  obtain ⟨D, hD⟩ : ∃ D, D = canon ((fv l l').den : Int) := ⟨_, rfl⟩
  simp only [hN, ← hD] at hp
  have k1 : decide (n < -400) = false := by simp; omega
  have k2 : decide (400 < n) = false := by simp; omega
  have k3 : decide (n < 0) = true := by simp; omega
  have HP := Lib.hid hp
  clear hp hN hD h0 hn hn0
  have hx := (FBox.new (w.alloc (.cells #[.string ⟨l.toArray⟩, .string ⟨l'.toArray⟩] 25)) (.string ⟨#[]⟩) (.string ⟨#[]⟩) 25)
  have hb := bto (below_alloc w (.cells #[.string ⟨l.toArray⟩, .string ⟨l'.toArray⟩] 25)) (below_alloc _ (.cells #[.string ⟨#[]⟩, .string ⟨#[]⟩] 25))
  rw [World.size_alloc] at hx
  go_enter Tryz.func178, Tryz.ntmps178
  go_wp2_with fail
  ((with_reducible refine (HP.out _ (by exact hG.below hb)).mono ?_); rintro e w1 ⟨rfl, hb1⟩)
  have hx := hx.below hb1
  have hb := bto hb hb1
  have c0 := hx.c0
  have c1 := hx.c1
  have f0 := hx.f0
  have f1 := hx.f1
  go_wp2_with fail
  have hy := hx.set (.string ⟨#[]⟩) (.string ⟨#[]⟩)
  have d0 := hy.c0
  have d1 := hy.c1
  refine bodyPost_ret (v := .tuple #[.agg #[.string ⟨#[]⟩, .string ⟨#[]⟩], .int .i64 10]) (by simp [results, Tryz.results178, go_sem, d0, d1]) rfl ?_
  exact ⟨rfl, below_set2 hb (Nat.le_add_right _ _) _ _⟩
end Go.Proofs.YtgnppdkeiihlfaaGreatDoor
/- Plain: the order and the floor of rational numbers, as the code reckons them. -/
namespace Go.Proofs.YtgnppdkeiihlfaaGreatDoor
open Num

theorem floor_frac (q : Rat) : divZ q.num (q.den : Int) = q.floor := by
  have := q.den_nz
  unfold divZ
  rw [if_pos (by omega), Rat.floor_def]
theorem floor_pos (a b : Int) (hb : 0 < b) : a / b = (Rat.divInt a b).floor := by
  obtain ⟨h1, h2⟩ := red_pos a b hb
  have hg := red_g a b (by omega)
  have hgp : 0 < (Int.gcd a b : Int) := by omega
  rw [Rat.floor_def, ← h1, ← h2]
  unfold divZ
  rw [if_pos hgp, if_pos hgp]
  obtain ⟨x, hx⟩ := Int.gcd_dvd_left (a := a) (b := b)
  obtain ⟨y, hy⟩ := Int.gcd_dvd_right (a := a) (b := b)
  generalize (Int.gcd a b : Int) = g at *
  subst hx hy
  rw [Int.mul_ediv_cancel_left _ (by omega), Int.mul_ediv_cancel_left _ (by omega), Int.mul_ediv_mul_of_pos _ _ hgp]
theorem floor_divZ (a b : Int) (hb : b ≠ 0) : divZ a b = (Rat.divInt a b).floor := by
  unfold divZ
  split
  · exact floor_pos a b (by assumption)
  · rw [floor_pos (-a) (-b) (by omega), Rat.neg_divInt_neg]
theorem cmpQ_neg (p q : Rat) : cmpQ p q < 0 ↔ p < q := by
  have h : (p - q).num < 0 ↔ p < q := by
    rw [← Rat.not_le, Rat.le_iff_sub_nonneg, ← Rat.num_nonneg]; omega
  rw [← h]; unfold cmpQ cmpZ; split <;> (try split) <;> omega
theorem cmpQ_eq (p q : Rat) : cmpQ p q = 0 ↔ p = q := by
  have h : (p - q).num = 0 ↔ p = q := by
    rw [Rat.num_eq_zero]
    constructor
    · intro h
      have h1 : p - q + q = 0 + q := by rw [h]
      rwa [Rat.sub_add_cancel, Rat.zero_add] at h1
    · intro h; rw [h]; exact Rat.sub_self
  rw [← h]; unfold cmpQ cmpZ; split <;> (try split) <;> omega
theorem cmpQ_bound (p q : Rat) : cmpQ p q = -1 ∨ cmpQ p q = 0 ∨ cmpQ p q = 1 := by
  unfold cmpQ cmpZ; split <;> (try split) <;> omega
theorem cmpQ_swap (p q : Rat) : cmpQ p q = -cmpQ q p := by
  unfold cmpQ
  have h : (p - q).num = -(q - p).num := by rw [← Rat.neg_num, Rat.neg_sub]
  rw [h]; unfold cmpZ; split <;> split <;> (try split) <;> (try split) <;> omega
theorem cmpQ_le (p q : Rat) : cmpQ p q ≤ 0 ↔ p ≤ q := by
  have h1 := cmpQ_neg q p
  rw [← Rat.not_lt, ← h1, cmpQ_swap p q]; omega
end Go.Proofs.YtgnppdkeiihlfaaGreatDoor
/- The chapter's examples: awake. -/
namespace Go.Proofs.YtgnppdkeiihlfaaGreatDoor
open Go.RowKit Num

theorem aw1 (w : World) (hG : Glob w) : Calls Tryz.prog 94 #[.string ⟨#[49]⟩, .string ⟨#[50]⟩] w fun e w' => e = .returned (.tuple #[.agg #[.string ⟨#[49]⟩, .string ⟨#[50]⟩], .int .i64 0]) ∧ Below w.heap.size w w' := by
  have h := New_any [49] [50] w (by decide) (by decide) hG (by decide)
  have e1 : fN (Rat.divInt (val [49]) (val [50])) = [49] := by decide +kernel
  have e2 : fD (Rat.divInt (val [49]) (val [50])) = [50] := by decide +kernel
  rw [e1, e2] at h; exact h
theorem aw2 (w : World) (hG : Glob w) : Calls Tryz.prog 94 #[.string ⟨#[49]⟩, .string ⟨#[51]⟩] w fun e w' => e = .returned (.tuple #[.agg #[.string ⟨#[49]⟩, .string ⟨#[51]⟩], .int .i64 0]) ∧ Below w.heap.size w w' := by
  have h := New_any [49] [51] w (by decide) (by decide) hG (by decide)
  have e1 : fN (Rat.divInt (val [49]) (val [51])) = [49] := by decide +kernel
  have e2 : fD (Rat.divInt (val [49]) (val [51])) = [51] := by decide +kernel
  rw [e1, e2] at h; exact h
theorem aw3 (w : World) (hG : Glob w) : Calls Tryz.prog 178 #[.agg #[.string ⟨#[45, 50]⟩, .string ⟨#[51]⟩], .int .i64 (-3)] w fun e w' => e = .returned (.tuple #[.agg #[.string ⟨#[45, 50, 55]⟩, .string ⟨#[56]⟩], .int .i64 0]) ∧ Below w.heap.size w w' := by
  have h := Power_neg [45, 50] [51] 3 w (by decide) (by decide) (by decide) (by decide) (by decide +kernel) hG
  have e1 : fN ((fv [45, 50] [51]) ^ 3)⁻¹ = [45, 50, 55] := by decide +kernel
  have e2 : fD ((fv [45, 50] [51]) ^ 3)⁻¹ = [56] := by decide +kernel
  rw [e1, e2] at h; exact h
theorem aw4 (w : World) (hG : Glob w) : Calls Tryz.prog 38 #[.agg #[.string ⟨#[49]⟩, .string ⟨#[50]⟩], .agg #[.string ⟨#[49]⟩, .string ⟨#[51]⟩]] w fun e w' => e = .returned (.agg #[.string ⟨#[53]⟩, .string ⟨#[54]⟩]) ∧ Below w.heap.size w w' := by
  have h := Add_any [49] [50] [49] [51] w (by decide) (by decide) (by decide) (by decide) hG
  have e1 : fN (fv [49] [50] + fv [49] [51]) = [53] := by decide +kernel
  have e2 : fD (fv [49] [50] + fv [49] [51]) = [54] := by decide +kernel
  rw [e1, e2] at h; exact h
theorem aw7 (w : World) (hG : Glob w) : Calls Tryz.prog 145 #[.agg #[.string ⟨#[50]⟩, .string ⟨#[52]⟩]] w fun e w' => e = .returned (.int .i64 1) ∧ Below w.heap.size w w' := by
  have h := Check_any [50] [52] w (by decide) (by decide) hG
  have e1 : ¬ ([50] = fN (fv [50] [52]) ∧ [52] = fD (fv [50] [52])) := by decide +kernel
  rw [if_neg e1] at h; exact h

end Go.Proofs.YtgnppdkeiihlfaaGreatDoor
/- trancheref02.Great. -/
namespace Go.Proofs.YtgnppdkeiihlfaaGreatDoor
open Go.RowKit Num

end Go.Proofs.YtgnppdkeiihlfaaGreatDoor
/- The contracts of package fraction over values: a fraction's two strings with a value. -/
namespace Go.Proofs.YtgnppdkeiihlfaaGreatDoor
open Go.RowKit Num

/-- two strings that make a fraction with the value q, not too long -/
structure IsQ (l l' : List UInt8) (q : Rat) : Prop where
  num : l.length ≤ 100000
  den : l'.length ≤ 100000
  eq : fv l l' = q
theorem isq_raw {l l' : List UInt8} {k : Nat} (h : l.length ≤ k) (h' : l'.length ≤ k) (hk : k ≤ 100000) : IsQ l l' (fv l l') := ⟨Nat.le_trans h hk, Nat.le_trans h' hk, rfl⟩
theorem isq_fr {q : Rat} {k : Nat} (h : Bd k q) (hk : k ≤ 99999) : IsQ (fN q) (fD q) q := ⟨Nat.le_trans (bd_len h).1 (by omega), Nat.le_trans (bd_len h).2 (by omega), fv_frac q⟩
theorem bd_zero : Bd 1 (0 : Rat) := ⟨by decide, by decide⟩
theorem isq_zero : IsQ [] [] 0 := ⟨by decide, by decide, by decide +kernel⟩
section
variable {l l' k k' : List UInt8} {p q r : Rat}
theorem rAdd (h : IsQ l l' p) (h' : IsQ k k' q) (e : p + q = r) : Ret 38 #[(Value.agg #[Value.string ⟨List.toArray l⟩, Value.string ⟨List.toArray l'⟩]), (Value.agg #[Value.string ⟨List.toArray k⟩, Value.string ⟨List.toArray k'⟩])] (Value.agg #[Value.string ⟨List.toArray (fN r)⟩, Value.string ⟨List.toArray (fD r)⟩]) := fun w hG => by
  have := Add_any l l' k k' w h.num h.den h'.num h'.den hG
  rwa [h.eq, h'.eq, e] at this
theorem rSub (h : IsQ l l' p) (h' : IsQ k k' q) (e : p - q = r) : Ret 41 #[(Value.agg #[Value.string ⟨List.toArray l⟩, Value.string ⟨List.toArray l'⟩]), (Value.agg #[Value.string ⟨List.toArray k⟩, Value.string ⟨List.toArray k'⟩])] (Value.agg #[Value.string ⟨List.toArray (fN r)⟩, Value.string ⟨List.toArray (fD r)⟩]) := fun w hG => by
  have := Sub_any l l' k k' w h.num h.den h'.num h'.den hG
  rwa [h.eq, h'.eq, e] at this
theorem rMul (h : IsQ l l' p) (h' : IsQ k k' q) (e : p * q = r) : Ret 39 #[(Value.agg #[Value.string ⟨List.toArray l⟩, Value.string ⟨List.toArray l'⟩]), (Value.agg #[Value.string ⟨List.toArray k⟩, Value.string ⟨List.toArray k'⟩])] (Value.agg #[Value.string ⟨List.toArray (fN r)⟩, Value.string ⟨List.toArray (fD r)⟩]) := fun w hG => by
  have := Mul_any l l' k k' w h.num h.den h'.num h'.den hG
  rwa [h.eq, h'.eq, e] at this
theorem fv_zero_iff : fv l l' = 0 ↔ val l = 0 := by
  unfold fv
  have := den1_ne (val l')
  constructor
  · intro h
    have h1 := Rat.divInt_eq_divInt_iff (n₁ := val l) (n₂ := 0) this this
    rw [Rat.zero_divInt, h, Int.zero_mul] at h1
    have h2 := h1.1 rfl
    rcases Int.mul_eq_zero.1 h2 with h3 | h3
    · exact h3
    · exact absurd h3 this
  · intro h; rw [h, Rat.zero_divInt]
theorem rQuo (h : IsQ l l' p) (h' : IsQ k k' q) (h0 : q ≠ 0) (e : p / q = r) : Ret 73 #[(Value.agg #[Value.string ⟨List.toArray l⟩, Value.string ⟨List.toArray l'⟩]), (Value.agg #[Value.string ⟨List.toArray k⟩, Value.string ⟨List.toArray k'⟩])] (.tuple #[(Value.agg #[Value.string ⟨List.toArray (fN r)⟩, Value.string ⟨List.toArray (fD r)⟩]), .int .i64 0]) := fun w hG => by
  have := Quo_any l l' k k' w h.num h.den h'.num h'.den hG (fun e0 => h0 (by rw [← h'.eq]; exact fv_zero_iff.2 e0))
  rwa [h.eq, h'.eq, e] at this
theorem rQuo0 (h' : IsQ k k' q) (h0 : q = 0) : Ret 73 #[(Value.agg #[Value.string ⟨List.toArray l⟩, Value.string ⟨List.toArray l'⟩]), (Value.agg #[Value.string ⟨List.toArray k⟩, Value.string ⟨List.toArray k'⟩])] (.tuple #[.agg #[.string ⟨#[]⟩, .string ⟨#[]⟩], .int .i64 10]) := fun w _ =>
  Quo_zero l l' k k' w h'.num (fv_zero_iff.1 (h'.eq.trans h0))
theorem rNeg (h : IsQ l l' p) (e : -p = r) : Ret 42 #[(Value.agg #[Value.string ⟨List.toArray l⟩, Value.string ⟨List.toArray l'⟩])] (Value.agg #[Value.string ⟨List.toArray (fN r)⟩, Value.string ⟨List.toArray (fD r)⟩]) := fun w hG => by
  have := Neg_any l l' w h.num h.den hG
  rwa [h.eq, e] at this
theorem rCompare (h : IsQ l l' p) (h' : IsQ k k' q) {c : Int} (e : cmpQ p q = c) : Ret 21 #[(Value.agg #[Value.string ⟨List.toArray l⟩, Value.string ⟨List.toArray l'⟩]), (Value.agg #[Value.string ⟨List.toArray k⟩, Value.string ⟨List.toArray k'⟩])] (.int .i64 c) := fun w hG => by
  have := Compare_any l l' k k' w h.num h.den h'.num h'.den hG
  rwa [h.eq, h'.eq, e] at this
theorem rOf (hl : l.length ≤ 1000000) {z : Int} (e : val l = z) : Ret 40 #[.string ⟨l.toArray⟩] (Value.agg #[Value.string ⟨List.toArray (fN ((z : Rat)))⟩, Value.string ⟨List.toArray (fD ((z : Rat)))⟩]) := fun w hG => by
  have := Of_any l w hl hG
  rwa [e] at this
theorem rParts (h : IsQ l l' p) : Ret 200 #[(Value.agg #[Value.string ⟨List.toArray l⟩, Value.string ⟨List.toArray l'⟩])] (.tuple #[.string ⟨(fN p).toArray⟩, .string ⟨(canon (p.den : Int)).toArray⟩]) := fun w hG => by
  have := Parts_any l l' w (Nat.le_trans h.num (by decide)) (Nat.le_trans h.den (by decide)) hG
  rwa [h.eq] at this
theorem rNew (hl : l.length ≤ 1000000) (hl' : l'.length ≤ 1000000) (h0 : val l' ≠ 0) (e : Rat.divInt (val l) (val l') = r) : Ret 94 #[.string ⟨l.toArray⟩, .string ⟨l'.toArray⟩] (.tuple #[(Value.agg #[Value.string ⟨List.toArray (fN r)⟩, Value.string ⟨List.toArray (fD r)⟩]), .int .i64 0]) := fun w hG => by
  have := New_any l l' w hl hl' hG h0
  rwa [e] at this
theorem rNew0 (hl' : l'.length ≤ 1000000) (h0 : val l' = 0) : Ret 94 #[.string ⟨l.toArray⟩, .string ⟨l'.toArray⟩] (.tuple #[.agg #[.string ⟨#[]⟩, .string ⟨#[]⟩], .int .i64 10]) := fun w _ => New_zero l l' w hl' h0
theorem rCheck (h : IsQ l l' p) {c : Int} (e : (if l = fN p ∧ l' = fD p then 0 else 1) = c) : Ret 145 #[(Value.agg #[Value.string ⟨List.toArray l⟩, Value.string ⟨List.toArray l'⟩])] (.int .i64 c) := fun w hG => by
  have := Check_any l l' w h.num h.den hG
  rwa [h.eq, e] at this
theorem riAdd (hl : l.length ≤ 100000000) (hl' : l'.length ≤ 100000000) {z : Int} (e : val l + val l' = z) : Ret 165 #[.string ⟨l.toArray⟩, .string ⟨l'.toArray⟩] (.string ⟨(canon z).toArray⟩) := fun w hG => by
  have := iadd_any l l' w hl hl' hG
  rwa [e] at this
theorem riCheck (hl : l.length ≤ 1000000) {c : Int} (e : (if l = canon (val l) then 0 else 1) = c) : Ret 17 #[.string ⟨l.toArray⟩] (.int .i64 c) := fun w _ => by
  have := icheck_any l w hl
  rwa [e] at this
theorem riGcd (hl : l.length ≤ 100000000) (hl' : l'.length ≤ 100000000) {z : Int} (e : (Int.gcd (val l) (val l') : Int) = z) : Ret 217 #[.string ⟨l.toArray⟩, .string ⟨l'.toArray⟩] (.string ⟨(canon z).toArray⟩) := fun w hG => by
  have := gcd_any l l' w hl hl' hG
  rwa [e] at this
theorem riCompare (hl : l.length ≤ 100000000) (hl' : l'.length ≤ 100000000) {c : Int} (e : cmpZ (val l) (val l') = c) : Ret 20 #[.string ⟨l.toArray⟩, .string ⟨l'.toArray⟩] (.int .i64 c) := fun w _ => by
  have := icompare_any l l' w hl hl'
  rwa [e] at this
end

end Go.Proofs.YtgnppdkeiihlfaaGreatDoor
/- Plain: the order of rational numbers, more. -/
namespace Go.Proofs.YtgnppdkeiihlfaaGreatDoor
open Num

theorem cmpQ_if (p q : Rat) : cmpQ p q = if p < q then -1 else if q < p then 1 else 0 := by
  have h1 := cmpQ_neg p q
  have h2 := cmpQ_neg q p
  have h3 := cmpQ_swap p q
  have h4 := cmpQ_bound p q
  split
  · have := h1.2 (by assumption); omega
  · split
    · have := h2.2 (by assumption); omega
    · have a := mt h1.1 (by assumption)
      have b := mt h2.1 (by assumption)
      omega
theorem cmpQ_congr {p q r s : Rat} (h1 : p < q ↔ r < s) (h2 : q < p ↔ s < r) : cmpQ p q = cmpQ r s := by
  rw [cmpQ_if, cmpQ_if]
  simp only [h1, h2]
theorem cmpQ_add (p q r : Rat) : cmpQ (p + r) (q + r) = cmpQ p q := cmpQ_congr Rat.add_lt_add_right Rat.add_lt_add_right
theorem cmpQ_mul {p q r : Rat} (h : 0 < r) : cmpQ (p * r) (q * r) = cmpQ p q := cmpQ_congr (Rat.mul_lt_mul_right h) (Rat.mul_lt_mul_right h)
theorem cmpQ_pos {p : Rat} : 0 < cmpQ p 0 ↔ 0 < p := by
  have := cmpQ_neg 0 p
  rw [← this, cmpQ_swap p 0]; omega
theorem cmpQ_trans {p q r : Rat} (h1 : cmpQ p q ≤ 0) (h2 : cmpQ q r ≤ 0) : cmpQ p r = min (cmpQ p q) (cmpQ q r) := by
  rw [cmpQ_le] at h1 h2
  have e1 := cmpQ_if p q
  have e2 := cmpQ_if q r
  have e3 := cmpQ_if p r
  have n1 : ¬ q < p := Rat.not_lt.2 h1
  have n2 : ¬ r < q := Rat.not_lt.2 h2
  have n3 : ¬ r < p := Rat.not_lt.2 (Rat.le_trans h1 h2)
  rw [if_neg n1] at e1
  rw [if_neg n2] at e2
  rw [if_neg n3] at e3
  by_cases a : p < q
  · have c : p < r := by
      rcases Rat.le_iff_lt_or_eq.1 (Rat.le_trans h1 h2) with c | c
      · exact c
      · subst c; exact absurd a n2
    rw [if_pos a] at e1; rw [if_pos c] at e3
    split at e2 <;> omega
  · have d : p = q := Rat.le_antisymm h1 (Rat.not_lt.1 a)
    subst d
    rw [if_neg a] at e1
    rw [e1, e2]
    split <;> omega
theorem cmpZ_zero (z : Int) : cmpZ z 0 = if z < 0 then -1 else if 0 < z then 1 else 0 := rfl
/-- the shape of a canonical text, and the sign -/
theorem canon_shape (z : Int) : (canon z = [] ∧ cmpZ z 0 = 0) ∨ (∃ c t, canon z = c :: t ∧ ((c.toNat : Int) == 45) = false ∧ cmpZ z 0 = 1) ∨ (∃ t, canon z = 45 :: t ∧ cmpZ z 0 = -1) := by
  rw [cmpZ_zero]
  rcases Int.lt_trichotomy z 0 with h | h | h
  · exact .inr (.inr ⟨dec z.natAbs, by unfold canon; rw [if_pos h], by rw [if_pos h]⟩)
  · subst h; exact .inl ⟨rfl, rfl⟩
  · refine .inr (.inl ?_)
    rw [if_neg (by omega), if_pos h]
    cases hc : canon z with
    | nil => have := (canon_eq_nil z).1 hc; omega
    | cons c t =>
      refine ⟨c, t, rfl, ?_, rfl⟩
      have hd : isDig c = true := by
        unfold canon at hc
        rw [if_neg (by omega)] at hc
        exact List.all_eq_true.1 (dec_digs z.natAbs) c (by rw [hc]; exact List.mem_cons_self)
      rw [beq_eq_false_iff_ne]
      intro e
      have e' : c.toNat = 45 := by omega
      simp [isDig, e'] at hd
end Go.Proofs.YtgnppdkeiihlfaaGreatDoor
/- trancheref02.Long. -/
namespace Go.Proofs.YtgnppdkeiihlfaaGreatDoor
open Go.RowKit Num

end Go.Proofs.YtgnppdkeiihlfaaGreatDoor
/- Power, for every exponent. -/
namespace Go.Proofs.YtgnppdkeiihlfaaGreatDoor
open Go.RowKit Num

theorem tmod9 (m : Int) : -8 ≤ m.tmod 9 ∧ m.tmod 9 ≤ 8 := by
  have h1 := Int.tmod_lt_of_pos m (b := 9) (by decide)
  have h2 := Int.lt_tmod_of_pos m (b := 9) (by decide)
  omega
theorem rPow {l l' : List UInt8} (h : l.length ≤ 1000) (h' : l'.length ≤ 1000) {q r : Rat} (hq : fv l l' = q) (n : Int) (h1 : -400 ≤ n) (h2 : n ≤ 400) (h0 : 0 ≤ n ∨ q ≠ 0) (e : q ^ n = r) :
    Ret 178 #[(Value.agg #[Value.string ⟨List.toArray l⟩, Value.string ⟨List.toArray l'⟩]), .int .i64 n] (.tuple #[(Value.agg #[Value.string ⟨List.toArray (fN r)⟩, Value.string ⟨List.toArray (fD r)⟩]), .int .i64 0]) := fun w hG => by
  subst hq e
  rcases Int.lt_or_le n 0 with hn | hn
  · obtain ⟨m, rfl⟩ : ∃ m : Nat, n = -(m : Int) := ⟨n.natAbs, by omega⟩
    have hq0 : fv l l' ≠ 0 := by
      rcases h0 with h0 | h0
      · omega
      · exact h0
    have := Power_neg l l' m w h h' (by omega) (by omega) hq0 hG
    rw [Rat.zpow_neg, Rat.zpow_natCast]
    exact this
  · obtain ⟨m, rfl⟩ : ∃ m : Nat, n = (m : Int) := ⟨n.natAbs, by omega⟩
    have := Power_pos l l' m w h h' (by omega) hG
    rw [Rat.zpow_natCast]
    exact this
theorem rPow0 {l l' : List UInt8} (h : l.length ≤ 1000) (h' : l'.length ≤ 1000) (hq : fv l l' = 0) (n : Int) (h1 : -400 ≤ n) (h2 : n < 0) :
    Ret 178 #[(Value.agg #[Value.string ⟨List.toArray l⟩, Value.string ⟨List.toArray l'⟩]), .int .i64 n] (.tuple #[.agg #[.string ⟨#[]⟩, .string ⟨#[]⟩], .int .i64 10]) := fun w hG => Power_zero l l' n w h h' h1 h2 hq hG
theorem zpow_add' (q : Rat) (i k : Int) (h : (0 ≤ i ∧ 0 ≤ k) ∨ q ≠ 0) : q ^ i * q ^ k = q ^ (i + k) := by
  rcases h with ⟨h1, h2⟩ | h
  · obtain ⟨a, rfl⟩ : ∃ a : Nat, i = (a : Int) := ⟨i.natAbs, by omega⟩
    obtain ⟨b, rfl⟩ : ∃ b : Nat, k = (b : Int) := ⟨k.natAbs, by omega⟩
    rw [← Int.natCast_add, Rat.zpow_natCast, Rat.zpow_natCast, Rat.zpow_natCast]
    induction b with
    | zero => rw [Rat.pow_zero, Rat.mul_one, Nat.add_zero]
    | succ b ih => rw [← Nat.add_assoc, Rat.pow_succ, Rat.pow_succ, ← Rat.mul_assoc, ih (by omega)]
  · exact (Rat.zpow_add h i k).symm
theorem bd_inv0 {k : Nat} {q : Rat} (h : Bd k q) (hk : 1 ≤ k) : Bd k q⁻¹ := by
  by_cases h0 : q = 0
  · subst h0; rw [Rat.inv_zero]; exact bd_mono bd_zero hk
  · exact bd_inv h h0
theorem bd_pow {k : Nat} {q : Rat} (h : Bd k q) (n : Nat) : Bd (k * n + 1) (q ^ n) := by
  induction n with
  | zero => rw [Rat.pow_zero]; exact bd_mono (show Bd 1 1 from ⟨by decide, by decide⟩) (by omega)
  | succ n ih => rw [Rat.pow_succ]; exact bd_mono (bd_mul ih h) (by rw [Nat.mul_add]; omega)
theorem bd_zpow {k m : Nat} {q : Rat} (h : Bd k q) (i : Int) (hi : i.natAbs ≤ m) : Bd (k * m + 1) (q ^ i) := by
  have hm : k * i.natAbs ≤ k * m := Nat.mul_le_mul_left k hi
  rcases Int.lt_or_le i 0 with hn | hn
  · obtain ⟨a, rfl⟩ : ∃ a : Nat, i = -(a : Int) := ⟨i.natAbs, by omega⟩
    rw [Rat.zpow_neg, Rat.zpow_natCast]
    exact bd_mono (bd_inv0 (bd_pow h a) (by omega)) (by simp at hm ⊢; exact hm)
  · obtain ⟨a, rfl⟩ : ∃ a : Nat, i = (a : Int) := ⟨i.natAbs, by omega⟩
    rw [Rat.zpow_natCast]
    exact bd_mono (bd_pow h a) (by simp at hm ⊢; exact hm)
end Go.Proofs.YtgnppdkeiihlfaaGreatDoor
namespace Go.Proofs.YtgnppdkeiihlfaaGreatDoor
open Num
/-- period and amount -/
abbrev PZ := Int × Int
/-- the value of payments, as it is computed: what there is, the period, the payments -/
def hv (x : Rat) : Rat → Int → List PZ → Rat
  | s, _, [] => s
  | s, a, p :: r => hv x (s * x ^ (p.1 - a).toNat + p.2) p.1 r
def valQ (x : Rat) : List PZ → Rat
  | [] => 0
  | p :: r => hv x 0 p.1 (p :: r)
/-- the sums of the periods -/
def grpL : Int → List PZ → List PZ
  | _, [] => []
  | s, p :: r => if r.head?.map (·.1) = some p.1 then grpL (s + p.2) r else (p.1, s + p.2) :: grpL 0 r
/-- the sums that are not 0 -/
def sumsL : Int → List PZ → List Int
  | _, [] => []
  | s, p :: r => if r.head?.map (·.1) = some p.1 then sumsL (s + p.2) r else if s + p.2 = 0 then sumsL 0 r else (s + p.2) :: sumsL 0 r
/-- how often signs change -/
def chL : Int → List Int → Nat
  | _, [] => 0
  | a, c :: r => (if cmpZ c 0 = a then 0 else 1) + chL (cmpZ c 0) r
def chN : List Int → Nat
  | [] => 0
  | c :: r => chL (cmpZ c 0) r
def sg1 : List Int → Int
  | [] => 0
  | c :: _ => cmpZ c 0
/-- periods that do not decrease -/
def UpL : Int → List PZ → Prop
  | _, [] => True
  | a, p :: r => a ≤ p.1 ∧ UpL p.1 r
def UpS : Int → List PZ → Prop
  | _, [] => True
  | a, p :: r => a < p.1 ∧ UpS p.1 r

theorem sumsL_grp : ∀ (l : List PZ) (s : Int), sumsL s l = ((grpL s l).map (·.2)).filter (fun c => decide (c ≠ 0))
  | [], s => rfl
  | p :: r, s => by
    unfold sumsL grpL
    by_cases h : r.head?.map (·.1) = some p.1
    · rw [if_pos h, if_pos h]; exact sumsL_grp r _
    · rw [if_neg h, if_neg h, List.map_cons, List.filter_cons]
      by_cases h0 : s + p.2 = 0
      · rw [if_pos h0, if_neg (by simp [h0])]; exact sumsL_grp r 0
      · rw [if_neg h0, if_pos (by simp [h0])]; rw [sumsL_grp r 0]
theorem grp_head : ∀ (l : List PZ) (s : Int) (p : PZ), l.head? = some p → ∃ c g, grpL s l = (p.1, c) :: g
  | [], s, p, h => by cases h
  | q :: r, s, p, h => by
    simp only [List.head?_cons, Option.some.injEq] at h
    subst h
    unfold grpL
    by_cases h : r.head?.map (·.1) = some q.1
    · rw [if_pos h]
      cases r with
      | nil => cases h
      | cons u t =>
        obtain ⟨c, g, e⟩ := grp_head (u :: t) (s + q.2) u rfl
        rw [e]
        simp only [List.head?_cons, Option.map_some, Option.some.injEq] at h
        exact ⟨c, g, by rw [h]⟩
    · rw [if_neg h]; exact ⟨_, _, rfl⟩
theorem hv_grp (x : Rat) : ∀ (l : List PZ), (∀ (T : Rat) (s : Int) (a : Int) (p : PZ), l.head? = some p → p.1 = a → hv x (T + s) a l = hv x T a (grpL s l)) ∧ (∀ (U : Rat) (a : Int), hv x U a l = hv x U a (grpL 0 l))
  | [] => ⟨(fun T s a p h => by cases h), fun U a => rfl⟩
  | q :: r => by
    have ih := hv_grp x r
    have hA : ∀ (T : Rat) (s : Int) (a : Int) (p : PZ), (q :: r).head? = some p → p.1 = a → hv x (T + s) a (q :: r) = hv x T a (grpL s (q :: r)) := by
      intro T s a p hp ha
      simp only [List.head?_cons, Option.some.injEq] at hp
      subst hp
      subst ha
      have e1 : hv x (T + s) q.1 (q :: r) = hv x (T + ((s + q.2 : Int) : Rat)) q.1 r := by
        show hv x ((T + s) * x ^ (q.1 - q.1).toNat + q.2) q.1 r = _
        rw [Int.sub_self, Int.toNat_zero, Rat.pow_zero, Rat.intCast_add]
        congr 1
        grind
      rw [e1]
      unfold grpL
      by_cases h : r.head?.map (·.1) = some q.1
      · rw [if_pos h]
        cases r with
        | nil => cases h
        | cons u t =>
          simp only [List.head?_cons, Option.map_some, Option.some.injEq] at h
          exact ih.1 T (s + q.2) q.1 u rfl h
      · rw [if_neg h]
        show _ = hv x (T * x ^ (q.1 - q.1).toNat + ((s + q.2 : Int) : Rat)) q.1 (grpL 0 r)
        rw [Int.sub_self, Int.toNat_zero, Rat.pow_zero, Rat.mul_one]
        exact ih.2 _ _
    refine ⟨hA, fun U a => ?_⟩
    have h1 := hA (U * x ^ (q.1 - a).toNat) 0 q.1 q rfl rfl
    obtain ⟨c, g, e⟩ := grp_head (q :: r) 0 q rfl
    rw [e] at h1 ⊢
    show hv x (U * x ^ (q.1 - a).toNat + q.2) q.1 r = hv x (U * x ^ (q.1 - a).toNat + c) q.1 g
    have h2 : hv x (U * x ^ (q.1 - a).toNat + ((0 : Int) : Rat)) q.1 (q :: r) = hv x (U * x ^ (q.1 - a).toNat + q.2) q.1 r := by
      show hv x ((U * x ^ (q.1 - a).toNat + ((0 : Int) : Rat)) * x ^ (q.1 - q.1).toNat + q.2) q.1 r = _
      rw [Int.sub_self, Int.toNat_zero, Rat.pow_zero]
      congr 1
      have : ((0 : Int) : Rat) = 0 := rfl
      grind
    rw [← h2, h1]
    show hv x (U * x ^ (q.1 - a).toNat * x ^ (q.1 - q.1).toNat + c) q.1 g = _
    rw [Int.sub_self, Int.toNat_zero, Rat.pow_zero, Rat.mul_one]
theorem val_grp (x : Rat) (l : List PZ) : valQ x l = valQ x (grpL 0 l) := by
  cases l with
  | nil => rfl
  | cons p r =>
    obtain ⟨c, g, e⟩ := grp_head (p :: r) 0 p rfl
    have h := (hv_grp x (p :: r)).2 0 p.1
    rw [e] at h ⊢
    exact h
theorem grp_up : ∀ (l : List PZ) (s a : Int), UpL a l → (∀ p, l.head? = some p → a < p.1) → UpS a (grpL s l)
  | [], s, a, _, _ => trivial
  | p :: r, s, a, h, h2 => by
    have h3 := h2 p rfl
    unfold grpL
    by_cases hh : r.head?.map (·.1) = some p.1
    · rw [if_pos hh]
      cases r with
      | nil => cases hh
      | cons u t =>
        simp only [List.head?_cons, Option.map_some, Option.some.injEq] at hh
        have h4 := h.2
        unfold UpL at h4
        exact grp_up (u :: t) _ a ⟨by omega, h4.2⟩ (fun q hq => by simp only [List.head?_cons, Option.some.injEq] at hq; subst hq; omega)
    · rw [if_neg hh]
      refine ⟨h3, grp_up r 0 p.1 h.2 (fun q hq => ?_)⟩
      cases r with
      | nil => cases hq
      | cons u t =>
        simp only [List.head?_cons, Option.some.injEq] at hq
        subst hq
        simp only [List.head?_cons, Option.map_some, Option.some.injEq] at hh
        have := h.2.1
        omega
theorem pow_pos' {x : Rat} (h : 0 < x) (n : Nat) : 0 < x ^ n := Rat.pow_pos h
theorem pow_le' {x y : Rat} (h : 0 < x) (h2 : x ≤ y) : ∀ n : Nat, x ^ n ≤ y ^ n
  | 0 => by rw [Rat.pow_zero, Rat.pow_zero]; exact Rat.le_refl
  | n + 1 => by
    rw [Rat.pow_succ, Rat.pow_succ]
    have ih := pow_le' h h2 n
    have h3 := pow_pos' h n
    have a1 : x ^ n * x ≤ x ^ n * y := Rat.mul_le_mul_of_nonneg_left h2 (Rat.le_of_lt h3)
    have a2 : x ^ n * y ≤ y ^ n * y := Rat.mul_le_mul_of_nonneg_right ih (by grind)
    grind
theorem pow_lt' {x y : Rat} (h : 0 < x) (h2 : x < y) {n : Nat} (hn : 0 < n) : x ^ n < y ^ n := by
  obtain ⟨k, rfl⟩ : ∃ k, n = k + 1 := ⟨n - 1, by omega⟩
  rw [Rat.pow_succ, Rat.pow_succ]
  have ih := pow_le' h (Rat.le_of_lt h2) k
  have h3 := pow_pos' h k
  have a1 : x ^ k * x < x ^ k * y := (Rat.mul_lt_mul_left h3).2 h2
  have a2 : x ^ k * y ≤ y ^ k * y := Rat.mul_le_mul_of_nonneg_right ih (by grind)
  grind
theorem pow_ge1 {x : Rat} (h : 1 ≤ x) {n : Nat} (hn : 0 < n) : x ≤ x ^ n := by
  obtain ⟨k, rfl⟩ : ∃ k, n = k + 1 := ⟨n - 1, by omega⟩
  have h1 := pow_le' (x := 1) (y := x) (by decide) h k
  have e1 : ∀ k : Nat, (1 : Rat) ^ k = 1 := fun k => by
    induction k with
    | zero => rw [Rat.pow_zero]
    | succ k ih => rw [Rat.pow_succ, ih, Rat.mul_one]
  rw [e1] at h1
  rw [Rat.pow_succ]
  have : 1 * x ≤ x ^ k * x := Rat.mul_le_mul_of_nonneg_right h1 (by grind)
  grind
/-- the sign s times z -/
def sq (s : Int) (q : Rat) : Rat := (s : Rat) * q
theorem sq_add (s : Int) (p q : Rat) : sq s (p + q) = sq s p + sq s q := by unfold sq; grind
theorem sq_mul (s : Int) (p q : Rat) : sq s (p * q) = sq s p * q := by unfold sq; grind
theorem sq_int (s c : Int) : sq s (c : Rat) = ((s * c : Int) : Rat) := by unfold sq; rw [Rat.intCast_mul]
theorem phase2 (s : Int) {x y : Rat} (hx : 0 < x) (hxy : x < y) : ∀ (l : List PZ) (a : Int) (t t' : Rat), UpL a l → (∀ p ∈ l, s * p.2 ≤ 0) → (0 ≤ sq s t → sq s t < sq s t') → 0 ≤ sq s (hv x t a l) → sq s (hv x t a l) < sq s (hv y t' a l)
  | [], a, t, t', _, _, h, h0 => h h0
  | p :: r, a, t, t', hu, hs, h, h0 => by
    refine phase2 s hx hxy r p.1 _ _ hu.2 (fun q hq => hs q (List.mem_cons_of_mem _ hq)) (fun h1 => ?_) h0
    have hp := hs p (List.mem_cons_self ..)
    have hp2 : ((s * p.2 : Int) : Rat) ≤ ((0 : Int) : Rat) := Rat.intCast_le_intCast.2 hp
    rw [sq_add, sq_mul, sq_int] at h1 ⊢
    rw [sq_add, sq_mul, sq_int]
    have k1 := pow_pos' hx (p.1 - a).toNat
    have k2 := pow_le' hx (Rat.le_of_lt hxy) (p.1 - a).toNat
    have z : ((0 : Int) : Rat) = 0 := rfl
    rw [z] at hp2
    generalize ((s * p.2 : Int) : Rat) = c at *
    generalize sq s t = T at *
    generalize sq s t' = T' at *
    generalize x ^ (p.1 - a).toNat = X at *
    generalize y ^ (p.1 - a).toNat = Y at *
    have hT : 0 ≤ T := by
      have : 0 ≤ T * X := by grind
      by_cases hT : 0 ≤ T
      · exact hT
      · have : T * X < 0 * X := (Rat.mul_lt_mul_right k1).2 (by grind)
        grind
    have hT' := h hT
    have b1 : T * X < T' * X := (Rat.mul_lt_mul_right k1).2 hT'
    have b2 : T' * X ≤ T' * Y := Rat.mul_le_mul_of_nonneg_left k2 (by grind)
    grind
theorem cmpZ_cases (c : Int) : (c < 0 ∧ cmpZ c 0 = -1) ∨ (c = 0 ∧ cmpZ c 0 = 0) ∨ (0 < c ∧ cmpZ c 0 = 1) := by
  unfold cmpZ
  by_cases h : c < 0
  · left; exact ⟨h, if_pos h⟩
  · by_cases h2 : 0 < c
    · right; right; exact ⟨h2, by rw [if_neg h, if_pos h2]⟩
    · right; left; exact ⟨by omega, by rw [if_neg h, if_neg h2]⟩
/-- the sums of a grouped list that are not 0 -/
def nz (l : List PZ) : List Int := (l.map (·.2)).filter (fun c => decide (c ≠ 0))
theorem nz_cons0 (p : PZ) (r : List PZ) (h : p.2 = 0) : nz (p :: r) = nz r := by unfold nz; rw [List.map_cons, List.filter_cons, if_neg (by simp [h])]
theorem nz_cons1 (p : PZ) (r : List PZ) (h : p.2 ≠ 0) : nz (p :: r) = p.2 :: nz r := by unfold nz; rw [List.map_cons, List.filter_cons, if_pos (by simp [h])]
theorem ch0 (s : Int) (hs : s = 1 ∨ s = -1) : ∀ l : List PZ, chL s (nz l) = 0 → ∀ p ∈ l, 0 ≤ s * p.2
  | [], _, p, hp => by cases hp
  | q :: r, h, p, hp => by
    by_cases h0 : q.2 = 0
    · rw [nz_cons0 q r h0] at h
      rcases List.mem_cons.1 hp with rfl | hp
      · rw [h0]; omega
      · exact ch0 s hs r h p hp
    · rw [nz_cons1 q r h0] at h
      unfold chL at h
      by_cases e : cmpZ q.2 0 = s
      · rw [if_pos e, e] at h
        rcases List.mem_cons.1 hp with rfl | hp
        · rcases cmpZ_cases p.2 with h1 | h1 | h1 <;> rcases hs with rfl | rfl <;> omega
        · exact ch0 s hs r (by omega) p hp
      · rw [if_neg e] at h; omega
theorem upS_L : ∀ (l : List PZ) (a : Int), UpS a l → UpL a l
  | [], _, _ => trivial
  | p :: r, a, h => ⟨by have := h.1; omega, upS_L r p.1 h.2⟩
theorem phase1 (s : Int) (hs : s = 1 ∨ s = -1) {x y : Rat} (hx : 0 < x) (hxy : x < y) : ∀ (l : List PZ) (a : Int) (t t' : Rat), UpS a l → chL s (nz l) = 1 → 0 < sq s t → sq s t ≤ sq s t' → 0 ≤ sq s (hv x t a l) → sq s (hv x t a l) < sq s (hv y t' a l)
  | [], a, t, t', _, h, _, _, _ => by unfold nz at h; simp [chL] at h
  | p :: r, a, t, t', hu, hc, h1, h2, h0 => by
    have k1 := pow_pos' hx (p.1 - a).toNat
    have k2 := pow_lt' hx hxy (n := (p.1 - a).toNat) (by have := hu.1; omega)
    have e1 : sq s (t * x ^ (p.1 - a).toNat + p.2) = sq s t * x ^ (p.1 - a).toNat + ((s * p.2 : Int) : Rat) := by rw [sq_add, sq_mul, sq_int]
    have e2 : sq s (t' * y ^ (p.1 - a).toNat + p.2) = sq s t' * y ^ (p.1 - a).toNat + ((s * p.2 : Int) : Rat) := by rw [sq_add, sq_mul, sq_int]
    have b1 : sq s t * x ^ (p.1 - a).toNat < sq s t * y ^ (p.1 - a).toNat := (Rat.mul_lt_mul_left h1).2 k2
    have b2 : sq s t * y ^ (p.1 - a).toNat ≤ sq s t' * y ^ (p.1 - a).toNat := Rat.mul_le_mul_of_nonneg_right h2 (by grind)
    have b3 : 0 < sq s t * x ^ (p.1 - a).toNat := Rat.mul_pos h1 k1
    have keep : chL s (nz r) = 1 → 0 ≤ s * p.2 → sq s (hv x t a (p :: r)) < sq s (hv y t' a (p :: r)) := fun hc hp => by
      have hp2 : ((0 : Int) : Rat) ≤ ((s * p.2 : Int) : Rat) := Rat.intCast_le_intCast.2 hp
      have z : ((0 : Int) : Rat) = 0 := rfl
      exact phase1 s hs hx hxy r p.1 _ _ hu.2 hc (by rw [e1]; grind) (by rw [e1, e2]; grind) h0
    by_cases hz : p.2 = 0
    · rw [nz_cons0 p r hz] at hc
      exact keep hc (by rw [hz]; omega)
    · rw [nz_cons1 p r hz] at hc
      unfold chL at hc
      by_cases e : cmpZ p.2 0 = s
      · rw [if_pos e, e] at hc
        refine keep (by omega) ?_
        rcases cmpZ_cases p.2 with g | g | g <;> rcases hs with rfl | rfl <;> omega
      · rw [if_neg e] at hc
        have em : cmpZ p.2 0 = -s := by rcases cmpZ_cases p.2 with g | g | g <;> rcases hs with rfl | rfl <;> omega
        rw [em] at hc
        refine phase2 s hx hxy r p.1 _ _ (upS_L _ _ hu.2) (fun q hq => ?_) (fun _ => by rw [e1, e2]; grind) h0
        have := ch0 (-s) (by omega) r (by omega) q hq
        rw [Int.neg_mul] at this
        omega
theorem phase0 {x y : Rat} (hx : 0 < x) (hxy : x < y) : ∀ (l : List PZ) (a : Int), UpS a l → chN (nz l) = 1 → 0 ≤ sq (sg1 (nz l)) (hv x 0 a l) → sq (sg1 (nz l)) (hv x 0 a l) < sq (sg1 (nz l)) (hv y 0 a l)
  | [], a, _, h, _ => by simp [nz, chN] at h
  | p :: r, a, hu, hc, h0 => by
    by_cases hz : p.2 = 0
    · rw [nz_cons0 p r hz] at hc h0 ⊢
      have e : ∀ z : Rat, hv z 0 a (p :: r) = hv z 0 p.1 r := fun z => by
        show hv z (0 * z ^ (p.1 - a).toNat + p.2) p.1 r = _
        rw [hz]; congr 1
        have z : ((0 : Int) : Rat) = 0 := rfl
        grind
      rw [e] at h0 ⊢
      rw [e]
      exact phase0 hx hxy r p.1 hu.2 hc h0
    · rw [nz_cons1 p r hz] at hc h0 ⊢
      unfold chN at hc
      unfold sg1 at h0 ⊢
      have hs : cmpZ p.2 0 = 1 ∨ cmpZ p.2 0 = -1 := by rcases cmpZ_cases p.2 with g | g | g <;> omega
      have e : ∀ z : Rat, hv z 0 a (p :: r) = hv z p.2 p.1 r := fun z => by
        show hv z (0 * z ^ (p.1 - a).toNat + p.2) p.1 r = _
        congr 1
        grind
      rw [e] at h0 ⊢
      rw [e]
      refine phase1 _ hs hx hxy r p.1 _ _ hu.2 hc ?_ Rat.le_refl h0
      rw [sq_int]
      have z : ((0 : Int) : Rat) = 0 := rfl
      rw [← z]
      refine Rat.intCast_lt_intCast.2 ?_
      rcases cmpZ_cases p.2 with g | g | g
      · rw [g.2]; omega
      · omega
      · rw [g.2]; omega
theorem sums_nz (l : List PZ) : sumsL 0 l = nz (grpL 0 l) := sumsL_grp l 0
theorem val_hv (x : Rat) (l : List PZ) (a : Int) : valQ x l = hv x 0 a l := by
  cases l with
  | nil => rfl
  | cons p r =>
    show hv x (0 * x ^ (p.1 - p.1).toNat + p.2) p.1 r = hv x (0 * x ^ (p.1 - a).toNat + p.2) p.1 r
    rw [Rat.zero_mul, Rat.zero_mul]
/-- beyond the root the value keeps its sign -/
theorem cross {x y : Rat} (hx : 0 < x) (hxy : x < y) (l : List PZ) (a : Int) (hu : UpL a l) (hc : chN (sumsL 0 l) = 1) (h0 : 0 ≤ sq (sg1 (sumsL 0 l)) (valQ x l)) : sq (sg1 (sumsL 0 l)) (valQ x l) < sq (sg1 (sumsL 0 l)) (valQ y l) := by
  rw [sums_nz] at *
  rw [val_grp x l] at *
  rw [val_grp y l]
  rw [val_hv x _ (a - 1)] at *
  rw [val_hv y _ (a - 1)]
  refine phase0 hx hxy _ _ (grp_up l 0 (a - 1) ?_ ?_) hc h0
  · cases l with
    | nil => trivial
    | cons p r => exact ⟨by have := hu.1; omega, hu.2⟩
  · intro p hp
    cases l with
    | nil => cases hp
    | cons q r => simp only [List.head?_cons, Option.some.injEq] at hp; subst hp; have := hu.1; omega
/-- the sum of what the amounts are without their signs -/
def absS : List PZ → Int
  | [] => 0
  | p :: r => p.2.natAbs + absS r
theorem absS_nn : ∀ l : List PZ, 0 ≤ absS l
  | [] => Int.le_refl _
  | p :: r => by have := absS_nn r; unfold absS; omega
theorem grp_abs : ∀ (l : List PZ) (s : Int), ∀ p ∈ grpL s l, (p.2.natAbs : Int) ≤ s.natAbs + absS l
  | [], s, p, h => by cases h
  | q :: r, s, p, h => by
    have hn := absS_nn r
    unfold grpL at h
    unfold absS
    split at h
    · have := grp_abs r _ p h; omega
    · rcases List.mem_cons.1 h with rfl | h
      · show ((s + q.2).natAbs : Int) ≤ _; omega
      · have := grp_abs r 0 p h; omega
theorem large1 (s : Int) (hs : s = 1 ∨ s = -1) {x : Rat} {B : Int} (hB : 0 ≤ B) (hx : ((1 + B : Int) : Rat) ≤ x) : ∀ (l : List PZ) (a : Int) (t : Rat), UpS a l → (∀ p ∈ l, (p.2.natAbs : Int) ≤ B) → 1 ≤ sq s t → 1 ≤ sq s (hv x t a l)
  | [], a, t, _, _, h => h
  | p :: r, a, t, hu, hb, h => by
    have o : ((1 : Int) : Rat) = 1 := rfl
    have hB' : ((0 : Int) : Rat) ≤ ((B : Int) : Rat) := Rat.intCast_le_intCast.2 hB
    have z : ((0 : Int) : Rat) = 0 := rfl
    rw [Rat.intCast_add] at hx
    refine large1 s hs hB (by rw [Rat.intCast_add]; exact hx) r p.1 _ hu.2 (fun q hq => hb q (List.mem_cons_of_mem _ hq)) ?_
    rw [sq_add, sq_mul, sq_int]
    have k1 := pow_ge1 (x := x) (by grind) (n := (p.1 - a).toNat) (by have := hu.1; omega)
    have k2 : ((-B : Int) : Rat) ≤ ((s * p.2 : Int) : Rat) := Rat.intCast_le_intCast.2 (by have := hb p (List.mem_cons_self ..); rcases hs with rfl | rfl <;> omega)
    rw [Rat.intCast_neg] at k2
    generalize x ^ (p.1 - a).toNat = X at *
    have k3 : 1 * X ≤ sq s t * X := Rat.mul_le_mul_of_nonneg_right h (by grind)
    grind
theorem large0 {x : Rat} {B : Int} (hB : 0 ≤ B) (hx : ((1 + B : Int) : Rat) ≤ x) : ∀ (l : List PZ) (a : Int), UpS a l → (∀ p ∈ l, (p.2.natAbs : Int) ≤ B) → nz l ≠ [] → 1 ≤ sq (sg1 (nz l)) (hv x 0 a l)
  | [], a, _, _, h => by simp [nz] at h
  | p :: r, a, hu, hb, h => by
    by_cases hz : p.2 = 0
    · rw [nz_cons0 p r hz] at h ⊢
      have e : ∀ z : Rat, hv z 0 a (p :: r) = hv z 0 p.1 r := fun z => by
        show hv z (0 * z ^ (p.1 - a).toNat + p.2) p.1 r = _
        rw [hz]; congr 1
        have z : ((0 : Int) : Rat) = 0 := rfl
        grind
      rw [e]
      exact large0 hB hx r p.1 hu.2 (fun q hq => hb q (List.mem_cons_of_mem _ hq)) h
    · rw [nz_cons1 p r hz]
      have e : hv x 0 a (p :: r) = hv x p.2 p.1 r := by
        show hv x (0 * x ^ (p.1 - a).toNat + p.2) p.1 r = _
        congr 1
        grind
      rw [e]
      show 1 ≤ sq (cmpZ p.2 0) _
      refine large1 _ (by rcases cmpZ_cases p.2 with g | g | g <;> omega) hB hx r p.1 _ hu.2 (fun q hq => hb q (List.mem_cons_of_mem _ hq)) ?_
      rw [sq_int]
      have o : ((1 : Int) : Rat) = 1 := rfl
      rw [← o]
      refine Rat.intCast_le_intCast.2 ?_
      rcases cmpZ_cases p.2 with g | g | g
      · rw [g.2]; omega
      · omega
      · rw [g.2]; omega
theorem upS_start (l : List PZ) (a : Int) (hu : UpL a l) : UpS (a - 1) (grpL 0 l) := by
  refine grp_up l 0 (a - 1) ?_ ?_
  · cases l with
    | nil => trivial
    | cons p r => exact ⟨by have := hu.1; omega, hu.2⟩
  · intro p hp
    cases l with
    | nil => cases hp
    | cons q r => simp only [List.head?_cons, Option.some.injEq] at hp; subst hp; have := hu.1; omega
/-- far above the value has the first sign -/
theorem large {x : Rat} (l : List PZ) (a : Int) (hu : UpL a l) (hc : sumsL 0 l ≠ []) (hx : ((1 + absS l : Int) : Rat) ≤ x) : 1 ≤ sq (sg1 (sumsL 0 l)) (valQ x l) := by
  rw [sums_nz] at *
  rw [val_grp x l, val_hv x _ (a - 1)]
  exact large0 (absS_nn l) hx _ _ (upS_start l a hu) (fun p hp => by have := grp_abs l 0 p hp; omega) hc
theorem top_of (Q : Int → Prop) (hd : ∀ z z', 1 ≤ z → z ≤ z' → Q z' → Q z) : ∀ M : Nat, (∀ z, (M : Int) ≤ z → 1 ≤ z → ¬ Q z) → ∃ z0 : Int, 0 ≤ z0 ∧ z0 ≤ M ∧ ∀ z, 1 ≤ z → (Q z ↔ z ≤ z0)
  | 0, h => ⟨0, Int.le_refl _, Int.le_refl _, fun z hz => ⟨fun hq => absurd hq (h z (by omega) hz), fun h2 => by omega⟩⟩
  | M + 1, h => by
    by_cases hq : Q M
    · by_cases hM : M = 0
      · subst hM
        exact ⟨0, Int.le_refl _, by omega, fun z hz => ⟨fun hq => absurd hq (h z (by omega) hz), fun h2 => by omega⟩⟩
      · refine ⟨M, by omega, by omega, fun z hz => ⟨fun h1 => ?_, fun h1 => hd z M hz h1 hq⟩⟩
        by_cases h2 : z ≤ M
        · exact h2
        · exact absurd h1 (h z (by omega) hz)
    · obtain ⟨z0, h1, h2, h3⟩ := top_of Q hd M (fun z hz hz1 h4 => by
        by_cases e : z = M
        · exact hq (e ▸ h4)
        · exact h z (by omega) hz1 h4)
      exact ⟨z0, h1, by omega, h3⟩
/-- where a number stands to the root -/
def placeQ (s : Int) (l : List PZ) (x : Rat) : Int := if x = 0 then -1 else s * cmpQ (valQ x l) 0
/-- the greatest number of units that is not greater than the root -/
structure Root (l : List PZ) (u z : Int) : Prop where
  nn : 0 ≤ z
  le : z ≤ (1 + absS l) * u
  iff : ∀ y, 1 ≤ y → (placeQ (sg1 (sumsL 0 l)) l (Rat.divInt y u) ≤ 0 ↔ y ≤ z)
theorem Root.uniq {l l' : List PZ} {u z z' : Int} (h : Root l u z) (h' : Root l' u z') (e : ∀ x : Rat, 0 < x → placeQ (sg1 (sumsL 0 l)) l x = placeQ (sg1 (sumsL 0 l')) l' x) (hu : 0 < u) : z = z' := by
  have hp : ∀ y : Int, 1 ≤ y → (0 : Rat) < Rat.divInt y u := fun y hy => by
    rw [Rat.divInt_eq_div, Rat.div_def]
    exact Rat.mul_pos (by simpa using (Rat.intCast_pos.2 (by omega : 0 < y))) (Rat.inv_pos.2 (by simpa using (Rat.intCast_pos.2 hu)))
  have a := h.nn
  have b := h'.nn
  apply Int.le_antisymm
  · by_cases h0 : z = 0
    · omega
    · have := (h'.iff z (by omega)).1
      rw [← e _ (hp z (by omega))] at this
      exact this ((h.iff z (by omega)).2 (Int.le_refl _))
  · by_cases h0 : z' = 0
    · omega
    · have := (h.iff z' (by omega)).1
      rw [e _ (hp z' (by omega))] at this
      exact this ((h'.iff z' (by omega)).2 (Int.le_refl _))
theorem sg1_cases {l : List PZ} (h : chN (sumsL 0 l) = 1) : sg1 (sumsL 0 l) = 1 ∨ sg1 (sumsL 0 l) = -1 := by
  rw [sums_nz] at *
  generalize grpL 0 l = g at *
  induction g with
  | nil => simp [nz, chN] at h
  | cons p r ih =>
    by_cases hz : p.2 = 0
    · rw [nz_cons0 p r hz] at h ⊢; exact ih h
    · rw [nz_cons1 p r hz] at h ⊢
      show cmpZ p.2 0 = 1 ∨ cmpZ p.2 0 = -1
      rcases cmpZ_cases p.2 with g | g | g <;> omega
theorem cmpQ_sq {s : Int} (hs : s = 1 ∨ s = -1) (q : Rat) : (s * cmpQ q 0 ≤ 0 ↔ sq s q ≤ 0) ∧ (0 ≤ s * cmpQ q 0 ↔ 0 ≤ sq s q) := by
  have e := cmpQ_if q 0
  unfold sq
  have o : ((1 : Int) : Rat) = 1 := rfl
  have o2 : ((-1 : Int) : Rat) = -1 := rfl
  rcases hs with rfl | rfl
  · rw [o, e]
    by_cases h1 : q < 0
    · rw [if_pos h1]; constructor <;> constructor <;> intro h <;> first | omega | grind
    · rw [if_neg h1]
      by_cases h2 : 0 < q
      · rw [if_pos h2]; constructor <;> constructor <;> intro h <;> first | omega | grind
      · rw [if_neg h2]; constructor <;> constructor <;> intro h <;> first | omega | grind
  · rw [o2, e]
    by_cases h1 : q < 0
    · rw [if_pos h1]; constructor <;> constructor <;> intro h <;> first | omega | grind
    · rw [if_neg h1]
      by_cases h2 : 0 < q
      · rw [if_pos h2]; constructor <;> constructor <;> intro h <;> first | omega | grind
      · rw [if_neg h2]; constructor <;> constructor <;> intro h <;> first | omega | grind
theorem divInt_pos {y u : Int} (hy : 1 ≤ y) (hu : 0 < u) : (0 : Rat) < Rat.divInt y u := by
  rw [Rat.divInt_eq_div, Rat.div_def]
  exact Rat.mul_pos (by simpa using (Rat.intCast_pos.2 (by omega : 0 < y))) (Rat.inv_pos.2 (by simpa using (Rat.intCast_pos.2 hu)))
theorem divInt_lt' {y z u : Int} (h : y < z) (hu : 0 < u) : Rat.divInt y u < Rat.divInt z u := by
  rw [Rat.divInt_eq_div, Rat.divInt_eq_div]
  have h1 : (y : Rat) < (z : Rat) := Rat.intCast_lt_intCast.2 h
  have h2 : (0 : Rat) < (u : Rat) := by simpa using (Rat.intCast_pos.2 hu)
  rw [Rat.div_def, Rat.div_def]
  exact (Rat.mul_lt_mul_right (Rat.inv_pos.2 h2)).2 h1
theorem place_sign {l : List PZ} (hc : chN (sumsL 0 l) = 1) {x : Rat} (hx : 0 < x) : (placeQ (sg1 (sumsL 0 l)) l x ≤ 0 ↔ sq (sg1 (sumsL 0 l)) (valQ x l) ≤ 0) ∧ (0 ≤ placeQ (sg1 (sumsL 0 l)) l x ↔ 0 ≤ sq (sg1 (sumsL 0 l)) (valQ x l)) := by
  unfold placeQ
  rw [if_neg (by grind)]
  exact cmpQ_sq (sg1_cases hc) _
theorem root_is (l : List PZ) (a u : Int) (hu : UpL a l) (hc : chN (sumsL 0 l) = 1) (h0 : 0 < u) : ∃ z, Root l u z := by
  have hne : sumsL 0 l ≠ [] := fun e => by rw [e] at hc; simp [chN] at hc
  obtain ⟨z0, h1, h2, h3⟩ := top_of (fun y => placeQ (sg1 (sumsL 0 l)) l (Rat.divInt y u) ≤ 0) (fun z z' hz hzz hq => by
    rw [(place_sign hc (divInt_pos hz h0)).1]
    rw [(place_sign hc (divInt_pos (by omega) h0)).1] at hq
    by_cases e : z = z'
    · rw [e]; exact hq
    · by_cases h4 : sq (sg1 (sumsL 0 l)) (valQ (Rat.divInt z u) l) ≤ 0
      · exact h4
      · have := cross (divInt_pos hz h0) (divInt_lt' (by omega : z < z') h0) l a hu hc (by grind)
        grind) (((1 + absS l) * u).toNat) (fun z hz h1 hq => by
    have hn := absS_nn l
    have hm : 0 ≤ (1 + absS l) * u := Int.mul_nonneg (by omega) (by omega)
    rw [(place_sign hc (divInt_pos h1 h0)).1] at hq
    have := large l a hu hne (x := Rat.divInt z u) (by
      rw [Rat.divInt_eq_div]
      have h2 : (0 : Rat) < (u : Rat) := by simpa using (Rat.intCast_pos.2 h0)
      have h3 : (((1 + absS l) * u : Int) : Rat) ≤ (z : Rat) := Rat.intCast_le_intCast.2 (by omega)
      rw [Rat.intCast_mul] at h3
      have h4 : (z : Rat) = z / u * u := (Rat.div_mul_cancel (by grind)).symm
      rw [h4] at h3
      exact Rat.le_of_mul_le_mul_right h3 h2)
    grind)
  have hn := absS_nn l
  have hm : 0 ≤ (1 + absS l) * u := Int.mul_nonneg (by omega) (by omega)
  exact ⟨z0, h1, by omega, h3⟩
theorem cmpQ_sq0 {s : Int} (hs : s = 1 ∨ s = -1) (q : Rat) : s * cmpQ q 0 = 0 ↔ q = 0 := by
  rw [cmpQ_if]
  by_cases h1 : q < 0
  · rw [if_pos h1]; constructor <;> intro h <;> first | grind | (rcases hs with rfl | rfl <;> omega)
  · rw [if_neg h1]
    by_cases h2 : 0 < q
    · rw [if_pos h2]; constructor <;> intro h <;> first | grind | (rcases hs with rfl | rfl <;> omega)
    · rw [if_neg h2]; constructor <;> intro h <;> first | grind | (rcases hs with rfl | rfl <;> omega)
def topZ (l : List PZ) (u z : Int) : Int := if placeQ (sg1 (sumsL 0 l)) l (Rat.divInt z u) = 0 then z else z + 1
theorem divInt_zero' (u : Int) : Rat.divInt 0 u = 0 := Rat.zero_divInt u
theorem place0 (s : Int) (l : List PZ) : placeQ s l 0 = -1 := by unfold placeQ; rw [if_pos rfl]
theorem Root.low {l : List PZ} {u z : Int} (h : Root l u z) : placeQ (sg1 (sumsL 0 l)) l (Rat.divInt z u) ≤ 0 := by
  have := h.nn
  by_cases h0 : z = 0
  · rw [h0, divInt_zero', place0]; decide
  · exact (h.iff z (by omega)).2 (Int.le_refl _)
theorem Root.next {l : List PZ} {u z : Int} (h : Root l u z) : 0 < placeQ (sg1 (sumsL 0 l)) l (Rat.divInt (z + 1) u) := by
  have := h.nn
  have h2 := h.iff (z + 1) (by omega)
  by_cases h3 : placeQ (sg1 (sumsL 0 l)) l (Rat.divInt (z + 1) u) ≤ 0
  · have := h2.1 h3; omega
  · omega
theorem Root.high {l : List PZ} {u z : Int} (h : Root l u z) : 0 ≤ placeQ (sg1 (sumsL 0 l)) l (Rat.divInt (topZ l u z) u) := by
  unfold topZ
  split
  · rename_i e; rw [e]; decide
  · have := h.next; omega
theorem Root.top_pos {l : List PZ} {u z : Int} (h : Root l u z) : 1 ≤ topZ l u z := by
  have := h.nn
  unfold topZ
  split
  · rename_i e
    by_cases h0 : z = 0
    · rw [h0, divInt_zero', place0] at e; cases e
    · omega
  · omega
theorem divInt_ten {y u k : Int} (hk : k ≠ 0) : Rat.divInt (k * y) (k * u) = Rat.divInt y u := Rat.divInt_mul_left hk
theorem divInt_le' {y z u : Int} (h : y ≤ z) (hu : 0 < u) : Rat.divInt y u ≤ Rat.divInt z u := by
  by_cases e : y = z
  · rw [e]; exact Rat.le_refl
  · exact Rat.le_of_lt (divInt_lt' (by omega) hu)
theorem Root.ten {l : List PZ} {a u z z' : Int} (hl : UpL a l) (hc : chN (sumsL 0 l) = 1) (h0 : 0 < u) (h : Root l u z) (h' : Root l (10 * u) z') : 10 * z ≤ z' ∧ topZ l (10 * u) z' ≤ 10 * topZ l u z := by
  have n0 := h.nn
  have n1 := h'.nn
  have l1 : 10 * z ≤ z' := by
    by_cases hz : z = 0
    · omega
    · refine (h'.iff (10 * z) (by omega)).1 ?_
      rw [divInt_ten (by decide)]; exact h.low
  have l2 : z' < 10 * (z + 1) := by
    by_cases hh : 10 * (z + 1) ≤ z'
    · have := (h'.iff (10 * (z + 1)) (by omega)).2 hh
      rw [divInt_ten (by decide)] at this
      have := h.next
      omega
    · omega
  refine ⟨l1, ?_⟩
  by_cases e : placeQ (sg1 (sumsL 0 l)) l (Rat.divInt z u) = 0
  · have t1 : topZ l u z = z := by unfold topZ; rw [if_pos e]
    have hz : 1 ≤ z := by have := h.top_pos; omega
    have l3 : z' = 10 * z := by
      by_cases hh : 10 * z + 1 ≤ z'
      · have p1 := (h'.iff (10 * z + 1) (by omega)).2 hh
        have p0 : 0 < Rat.divInt z u := divInt_pos hz h0
        have p2 : Rat.divInt z u < Rat.divInt (10 * z + 1) (10 * u) := by
          rw [← divInt_ten (y := z) (u := u) (k := 10) (by decide)]; exact divInt_lt' (by omega) (by omega)
        have p3 := cross p0 p2 l a hl hc (((place_sign hc p0).2).1 (by omega))
        have p4 := ((place_sign hc (show 0 < Rat.divInt (10 * z + 1) (10 * u) by grind)).1).1 p1
        have p5 := ((place_sign hc p0).2).1 (by omega)
        grind
      · omega
    have t2 : topZ l (10 * u) z' = z' := by unfold topZ; rw [if_pos (by rw [l3, divInt_ten (by decide)]; exact e)]
    omega
  · have t1 : topZ l u z = z + 1 := by unfold topZ; rw [if_neg e]
    have t2 : topZ l (10 * u) z' ≤ z' + 1 := by unfold topZ; split <;> omega
    omega
theorem sign_of_sq {s : Int} (hs : s = 1 ∨ s = -1) (q : Rat) : (sq s q < 0 → cmpQ q 0 = -s) ∧ (0 < sq s q → cmpQ q 0 = s) := by
  have e := cmpQ_if q 0
  unfold sq
  have o : ((1 : Int) : Rat) = 1 := rfl
  have o2 : ((-1 : Int) : Rat) = -1 := rfl
  rcases hs with rfl | rfl
  · rw [o, e]
    refine ⟨fun h => ?_, fun h => ?_⟩
    · rw [if_pos (by grind)]
    · rw [if_neg (by grind), if_pos (by grind)]
  · rw [o2, e]
    refine ⟨fun h => ?_, fun h => ?_⟩
    · rw [if_neg (by grind), if_pos (by grind)]; decide
    · rw [if_pos (by grind)]
theorem Root.below {l : List PZ} {a u z : Int} (hl : UpL a l) (hc : chN (sumsL 0 l) = 1) (h0 : 0 < u) (h : Root l u z) {x : Rat} (hx : 0 < x) (hlt : x < Rat.divInt z u) : cmpQ (valQ x l) 0 = -sg1 (sumsL 0 l) := by
  refine (sign_of_sq (sg1_cases hc) _).1 ?_
  have hz : 1 ≤ z := by
    have := h.nn
    by_cases e : z = 0
    · rw [e, divInt_zero'] at hlt; grind
    · omega
  have p1 := ((place_sign hc (divInt_pos hz h0)).1).1 h.low
  by_cases hh : 0 ≤ sq (sg1 (sumsL 0 l)) (valQ x l)
  · have := cross hx hlt l a hl hc hh
    grind
  · grind
theorem Root.above {l : List PZ} {a u z : Int} (hl : UpL a l) (hc : chN (sumsL 0 l) = 1) (h0 : 0 < u) (h : Root l u z) {x : Rat} (hlt : Rat.divInt (topZ l u z) u < x) : cmpQ (valQ x l) 0 = sg1 (sumsL 0 l) := by
  refine (sign_of_sq (sg1_cases hc) _).2 ?_
  have hp := divInt_pos h.top_pos h0
  have p1 := ((place_sign hc hp).2).1 h.high
  have := cross hp hlt l a hl hc p1
  grind
/-! the first and the last sign -/
def lastS : Int → List Int → Int
  | a, [] => a
  | _, c :: r => lastS (cmpZ c 0) r
theorem last0 : ∀ (l : List Int) (s : Int), chL s l = 0 → lastS s l = s
  | [], s, _ => rfl
  | c :: r, s, h => by
    unfold chL at h
    by_cases e : cmpZ c 0 = s
    · rw [if_pos e] at h
      show lastS (cmpZ c 0) r = s
      rw [last0 r _ (by omega), e]
    · rw [if_neg e] at h; omega
theorem last1 : ∀ (l : List Int) (s : Int), (s = 1 ∨ s = -1) → (∀ c ∈ l, c ≠ 0) → chL s l = 1 → lastS s l = -s
  | [], s, _, _, h => by simp [chL] at h
  | c :: r, s, hs, hn, h => by
    unfold chL at h
    show lastS (cmpZ c 0) r = -s
    by_cases e : cmpZ c 0 = s
    · rw [if_pos e, e] at h
      rw [e]
      exact last1 r s hs (fun d hd => hn d (List.mem_cons_of_mem _ hd)) (by omega)
    · rw [if_neg e] at h
      rw [last0 r _ (by omega)]
      have := hn c (List.mem_cons_self ..)
      rcases cmpZ_cases c with g | g | g <;> rcases hs with rfl | rfl <;> omega
theorem nz_ne (l : List PZ) : ∀ c ∈ nz l, c ≠ 0 := fun c hc => by unfold nz at hc; simpa using (List.mem_filter.1 hc).2
theorem last_first {l : List PZ} (h : chN (sumsL 0 l) = 1) : lastS 0 (sumsL 0 l) = -sg1 (sumsL 0 l) := by
  have hs := sg1_cases h
  have hn : ∀ c ∈ sumsL 0 l, c ≠ 0 := by rw [sums_nz]; exact nz_ne _
  cases hl : sumsL 0 l with
  | nil => rw [hl] at h; simp [chN] at h
  | cons c r =>
    rw [hl] at h hs hn
    exact last1 r _ hs (fun d hd => hn d (List.mem_cons_of_mem _ hd)) h
/-! Two payments. -/
theorem two_sums {x y n : Int} (hx : 0 < x) (hy : 0 < y) (hn : 0 < n) : sumsL 0 [(0, -x), (n, y)] = [-x, y] := by
  unfold sumsL
  rw [if_neg (by simp; omega), if_neg (by show ¬ (0 + -x = 0); omega)]
  unfold sumsL
  rw [if_neg (by simp), if_neg (by show ¬ (0 + y = 0); omega)]
  unfold sumsL
  simp
theorem two_val (f : Rat) (x y n : Int) : valQ f [(0, -x), (n, y)] = (y : Rat) - (x : Rat) * f ^ n.toNat := by
  show (0 * f ^ ((0 : Int) - 0).toNat + ((-x : Int) : Rat)) * f ^ (n - 0).toNat + (y : Rat) = _
  rw [Rat.intCast_neg, Int.sub_zero]
  grind
theorem two_ch {x y : Int} (hx : 0 < x) (hy : 0 < y) : chN [-x, y] = 1 ∧ sg1 [-x, y] = -1 := by
  have e1 : cmpZ (-x) 0 = -1 := by rcases cmpZ_cases (-x) with g | g | g <;> omega
  have e2 : cmpZ y 0 = 1 := by rcases cmpZ_cases y with g | g | g <;> omega
  unfold chN sg1
  simp only [chL]
  rw [e1, e2]
  exact ⟨by decide, rfl⟩
theorem two_bounds {x y n u z : Int} (hx : 0 < x) (hy : 0 < y) (hn : 0 < n) (hu : 0 < u) (h : Root [(0, -x), (n, y)] u z) :
    (Rat.divInt z u) ^ n.toNat ≤ Rat.divInt y x ∧ Rat.divInt y x ≤ (Rat.divInt (topZ [(0, -x), (n, y)] u z) u) ^ n.toNat := by
  have hc : chN (sumsL 0 [(0, -x), (n, y)]) = 1 := by rw [two_sums hx hy hn]; exact (two_ch hx hy).1
  have hs : sg1 (sumsL 0 [(0, -x), (n, y)]) = -1 := by rw [two_sums hx hy hn]; exact (two_ch hx hy).2
  have hxq : (0 : Rat) < (x : Rat) := by simpa using (Rat.intCast_pos.2 hx)
  have hyq : (0 : Rat) < (y : Rat) := by simpa using (Rat.intCast_pos.2 hy)
  have e : (y : Rat) = Rat.divInt y x * x := by rw [Rat.divInt_eq_div, Rat.div_mul_cancel (by grind)]
  have o2 : ((-1 : Int) : Rat) = -1 := rfl
  constructor
  · by_cases h0 : z = 0
    · rw [h0, divInt_zero']
      obtain ⟨k, hk⟩ : ∃ k, n.toNat = k + 1 := ⟨n.toNat - 1, by omega⟩
      rw [hk, Rat.pow_succ, Rat.mul_zero]
      exact Rat.le_of_lt (divInt_pos (by omega) hx)
    · have hp := divInt_pos (y := z) (by have := h.nn; omega) hu
      have p1 := ((place_sign hc hp).1).1 h.low
      rw [hs, two_val, e] at p1
      unfold sq at p1
      rw [o2] at p1
      have : (Rat.divInt z u) ^ n.toNat * (x : Rat) ≤ Rat.divInt y x * (x : Rat) := by grind
      exact Rat.le_of_mul_le_mul_right this hxq
  · have hp := divInt_pos h.top_pos hu
    have p1 := ((place_sign hc hp).2).1 h.high
    rw [hs, two_val, e] at p1
    unfold sq at p1
    rw [o2] at p1
    have : Rat.divInt y x * (x : Rat) ≤ (Rat.divInt (topZ [(0, -x), (n, y)] u z) u) ^ n.toNat * (x : Rat) := by grind
    exact Rat.le_of_mul_le_mul_right this hxq
/-! Lists that say the same. -/
def scaleL (k : Int) (l : List PZ) : List PZ := l.map (fun p => (p.1, p.2 * k))
def shiftL (d : Int) (l : List PZ) : List PZ := l.map (fun p => (p.1 + d, p.2))
theorem hv_scale (x : Rat) (k : Int) : ∀ (l : List PZ) (t : Rat) (a : Int), hv x (t * k) a (scaleL k l) = hv x t a l * k
  | [], t, a => rfl
  | p :: r, t, a => by
    have := hv_scale x k r (t * x ^ (p.1 - a).toNat + p.2) p.1
    show hv x (t * k * x ^ (p.1 - a).toNat + ((p.2 * k : Int) : Rat)) p.1 (scaleL k r) = hv x (t * x ^ (p.1 - a).toNat + p.2) p.1 r * k
    rw [← this, Rat.intCast_mul]
    congr 1
    grind
theorem val_scale (x : Rat) (k : Int) (l : List PZ) : valQ x (scaleL k l) = valQ x l * k := by
  rw [val_hv x _ 0, val_hv x l 0, ← hv_scale, Rat.zero_mul]
theorem hv_shift (x : Rat) (d : Int) : ∀ (l : List PZ) (t : Rat) (a : Int), hv x t (a + d) (shiftL d l) = hv x t a l
  | [], t, a => rfl
  | p :: r, t, a => by
    show hv x (t * x ^ (p.1 + d - (a + d)).toNat + p.2) (p.1 + d) (shiftL d r) = hv x (t * x ^ (p.1 - a).toNat + p.2) p.1 r
    rw [hv_shift x d r, (by omega : p.1 + d - (a + d) = p.1 - a)]
theorem val_shift (x : Rat) (d : Int) (l : List PZ) : valQ x (shiftL d l) = valQ x l := by
  rw [val_hv x _ (0 + d), val_hv x l 0, hv_shift]
theorem sums_shift (d : Int) : ∀ (l : List PZ) (s : Int), sumsL s (shiftL d l) = sumsL s l
  | [], s => rfl
  | p :: r, s => by
    have e : ((shiftL d r).head?.map (·.1) = some (p.1 + d)) ↔ (r.head?.map (·.1) = some p.1) := by
      cases r with
      | nil => simp [shiftL]
      | cons q t => simp [shiftL]
    show sumsL s ((p.1 + d, p.2) :: shiftL d r) = _
    unfold sumsL
    by_cases h : r.head?.map (·.1) = some p.1
    · rw [if_pos h, if_pos (e.2 h)]; exact sums_shift d r _
    · rw [if_neg h, if_neg (fun h2 => h (e.1 h2))]
      show (if s + p.2 = 0 then _ else _) = _
      rw [sums_shift d r 0]
theorem sums_scale (k : Int) (hk : k ≠ 0) : ∀ (l : List PZ) (s : Int), sumsL (s * k) (scaleL k l) = (sumsL s l).map (· * k)
  | [], s => rfl
  | p :: r, s => by
    have e : ((scaleL k r).head?.map (·.1) = some p.1) ↔ (r.head?.map (·.1) = some p.1) := by
      cases r with
      | nil => simp [scaleL]
      | cons q t => simp [scaleL]
    show sumsL (s * k) ((p.1, p.2 * k) :: scaleL k r) = _
    unfold sumsL
    by_cases h : r.head?.map (·.1) = some p.1
    · rw [if_pos h, if_pos (e.2 h)]
      show sumsL (s * k + p.2 * k) (scaleL k r) = _
      rw [← Int.add_mul]; exact sums_scale k hk r _
    · rw [if_neg h, if_neg (fun h2 => h (e.1 h2))]
      show (if s * k + p.2 * k = 0 then _ else _) = _
      have ih := sums_scale k hk r 0
      rw [Int.zero_mul] at ih
      rw [← Int.add_mul]
      by_cases h0 : s + p.2 = 0
      · rw [if_pos (by rw [h0, Int.zero_mul]), if_pos h0]; exact ih
      · rw [if_neg (by intro h1; rcases Int.mul_eq_zero.1 h1 with h2 | h2 <;> contradiction), if_neg h0, ih]; rfl
theorem cmpZ_mul (c k : Int) (hk : k ≠ 0) : cmpZ (c * k) 0 = cmpZ c 0 * cmpZ k 0 := by
  rcases cmpZ_cases c with g | g | g <;> rcases cmpZ_cases k with g' | g' | g' <;> try omega
  · rw [g.2, g'.2]; have := Int.mul_pos_of_neg_of_neg g.1 g'.1; rcases cmpZ_cases (c * k) with w | w | w <;> omega
  · rw [g.2, g'.2]; have := Int.mul_neg_of_neg_of_pos g.1 g'.1; rcases cmpZ_cases (c * k) with w | w | w <;> omega
  · rw [g.1, Int.zero_mul]; simp [cmpZ]
  · rw [g.1, Int.zero_mul]; simp [cmpZ]
  · rw [g.2, g'.2]; have := Int.mul_neg_of_pos_of_neg g.1 g'.1; rcases cmpZ_cases (c * k) with w | w | w <;> omega
  · rw [g.2, g'.2]; have := Int.mul_pos g.1 g'.1; rcases cmpZ_cases (c * k) with w | w | w <;> omega
theorem chL_scale (k : Int) (hk : k ≠ 0) : ∀ (l : List Int) (s : Int), chL (s * cmpZ k 0) (l.map (· * k)) = chL s l
  | [], s => rfl
  | c :: r, s => by
    show (if cmpZ (c * k) 0 = s * cmpZ k 0 then 0 else 1) + chL (cmpZ (c * k) 0) (r.map (· * k)) = (if cmpZ c 0 = s then 0 else 1) + chL (cmpZ c 0) r
    rw [cmpZ_mul c k hk, chL_scale k hk r]
    have : (cmpZ c 0 * cmpZ k 0 = s * cmpZ k 0) ↔ cmpZ c 0 = s := by
      rcases cmpZ_cases k with g | g | g
      · rw [g.2]; omega
      · omega
      · rw [g.2]; omega
    by_cases h : cmpZ c 0 = s
    · rw [if_pos h, if_pos (this.2 h)]
    · rw [if_neg h, if_neg (fun h2 => h (this.1 h2))]
theorem chN_scale (k : Int) (hk : k ≠ 0) (l : List Int) : chN (l.map (· * k)) = chN l ∧ sg1 (l.map (· * k)) = sg1 l * cmpZ k 0 := by
  cases l with
  | nil => exact ⟨rfl, by show (0 : Int) = 0 * _; omega⟩
  | cons c r =>
    refine ⟨?_, cmpZ_mul c k hk⟩
    show chL (cmpZ (c * k) 0) (r.map (· * k)) = chL (cmpZ c 0) r
    rw [cmpZ_mul c k hk, chL_scale k hk]
theorem cmpQ_scale (q : Rat) (k : Int) (hk : k ≠ 0) : cmpQ (q * k) 0 = cmpQ q 0 * cmpZ k 0 := by
  rw [cmpQ_if, cmpQ_if]
  have z : ((0 : Int) : Rat) = 0 := rfl
  rcases cmpZ_cases k with g | g | g
  · have hk : (k : Rat) < 0 := by rw [← z]; exact Rat.intCast_lt_intCast.2 g.1
    rw [g.2]
    by_cases h1 : q < 0
    · have : 0 < q * k := by have := Rat.mul_pos (a := -q) (b := -k) (by grind) (by grind); grind
      rw [if_pos h1, if_neg (by grind), if_pos this]; rfl
    · by_cases h2 : 0 < q
      · have : q * k < 0 := by have := Rat.mul_pos (a := q) (b := -k) (by grind) (by grind); grind
        rw [if_neg h1, if_pos h2, if_pos this]; rfl
      · have : q = 0 := by grind
        rw [this, Rat.zero_mul]; simp
  · omega
  · have hk : 0 < (k : Rat) := by rw [← z]; exact Rat.intCast_lt_intCast.2 g.1
    rw [g.2]
    by_cases h1 : q < 0
    · have : q * k < 0 := by have := Rat.mul_pos (a := -q) (b := k) (by grind) (by grind); grind
      rw [if_pos h1, if_pos this]; rfl
    · by_cases h2 : 0 < q
      · have : 0 < q * k := Rat.mul_pos h2 hk
        rw [if_neg h1, if_pos h2, if_neg (by grind), if_pos this]; rfl
      · have : q = 0 := by grind
        rw [this, Rat.zero_mul]; simp
theorem place_scale {k : Int} (hk : k ≠ 0) (l : List PZ) (x : Rat) : placeQ (sg1 (sumsL 0 (scaleL k l))) (scaleL k l) x = placeQ (sg1 (sumsL 0 l)) l x := by
  have h := sums_scale k hk l 0
  rw [Int.zero_mul] at h
  rw [h, (chN_scale k hk _).2]
  unfold placeQ
  rw [val_scale, cmpQ_scale _ k hk]
  by_cases h0 : x = 0
  · rw [if_pos h0, if_pos h0]
  · rw [if_neg h0, if_neg h0]
    rcases cmpZ_cases k with g | g | g
    · rw [g.2]; grind
    · omega
    · rw [g.2]; grind
theorem place_shift (d : Int) (l : List PZ) (x : Rat) : placeQ (sg1 (sumsL 0 (shiftL d l))) (shiftL d l) x = placeQ (sg1 (sumsL 0 l)) l x := by
  rw [sums_shift]; unfold placeQ; rw [val_shift]
theorem grp_same : ∀ (l : List PZ) (a : Int), UpS a l → grpL 0 l = l
  | [], a, _ => rfl
  | p :: r, a, h => by
    unfold grpL
    have h2 := h.2
    rw [if_neg (by
      cases r with
      | nil => simp
      | cons q t => have := h2.1; simp; omega), grp_same r p.1 h2, Int.zero_add]
theorem place_grp (l : List PZ) (a : Int) (h : UpL a l) (x : Rat) : sumsL 0 (grpL 0 l) = sumsL 0 l ∧ placeQ (sg1 (sumsL 0 (grpL 0 l))) (grpL 0 l) x = placeQ (sg1 (sumsL 0 l)) l x := by
  have e : sumsL 0 (grpL 0 l) = sumsL 0 l := by rw [sums_nz, sums_nz, grp_same _ _ (upS_start l a h)]
  refine ⟨e, ?_⟩
  rw [e]
  unfold placeQ
  rw [← val_grp]
/-! Sums of lists. -/
def addL : List PZ → List PZ → List PZ
  | p :: r, q :: t => (p.1, p.2 + q.2) :: addL r t
  | _, _ => []
theorem hv_add (x : Rat) : ∀ (l m : List PZ) (t u : Rat) (a : Int), l.map (·.1) = m.map (·.1) → hv x (t + u) a (addL l m) = hv x t a l + hv x u a m
  | [], [], t, u, a, _ => rfl
  | p :: r, q :: s, t, u, a, h => by
    simp only [List.map_cons, List.cons.injEq] at h
    show hv x ((t + u) * x ^ (p.1 - a).toNat + ((p.2 + q.2 : Int) : Rat)) p.1 (addL r s) = hv x (t * x ^ (p.1 - a).toNat + p.2) p.1 r + hv x (u * x ^ (q.1 - a).toNat + q.2) q.1 s
    rw [← h.1, ← hv_add x r s _ _ _ h.2, Rat.intCast_add]
    congr 1
    grind
  | [], _ :: _, _, _, _, h => by simp at h
  | _ :: _, [], _, _, _, h => by simp at h
theorem val_add (x : Rat) (l m : List PZ) (h : l.map (·.1) = m.map (·.1)) : valQ x (addL l m) = valQ x l + valQ x m := by
  have := hv_add x l m 0 0 0 h
  rw [val_hv x _ 0, val_hv x l 0, val_hv x m 0, ← this, Rat.add_zero]
def sumL : Int → List PZ → Int
  | s, [] => s
  | s, p :: r => sumL (s + p.2) r
theorem hv_one : ∀ (l : List PZ) (s a : Int), hv 1 (s : Rat) a l = (sumL s l : Int)
  | [], s, a => rfl
  | p :: r, s, a => by
    show hv 1 ((s : Rat) * 1 ^ (p.1 - a).toNat + p.2) p.1 r = (sumL (s + p.2) r : Int)
    rw [← hv_one r (s + p.2) p.1, Rat.intCast_add]
    have e1 : ∀ k : Nat, (1 : Rat) ^ k = 1 := fun k => by
      induction k with
      | zero => rw [Rat.pow_zero]
      | succ k ih => rw [Rat.pow_succ, ih, Rat.mul_one]
    rw [e1, Rat.mul_one]
theorem val_one (l : List PZ) : valQ 1 l = (sumL 0 l : Int) := by
  rw [val_hv 1 l 0, ← hv_one l 0 0]; rfl
end Go.Proofs.YtgnppdkeiihlfaaGreatDoor
