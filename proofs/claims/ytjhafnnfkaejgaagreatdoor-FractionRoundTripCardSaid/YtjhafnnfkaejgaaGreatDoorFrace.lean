/- Package fraction: operations, apply. Printed by wip/tools/gen_apply.py. -/
import Derived.Laws.EntriesVeiled
import Derived.Test.YtjhafnnfkaejgaaGreatDoorFracd
namespace Go.Proofs.YtjhafnnfkaejgaaGreatDoor
open Go.RowKit Num

set_option maxHeartbeats 1000000 in
set_option maxRecDepth 100000 in
theorem operations_any (w : World) :
    Calls Tryz.prog 61 #[] w fun e w' => e = .returned (.agg #[.func (.func 91) #[] #[.pointer (some ⟨w.heap.size + 1, 0, none⟩)], .func (.func 92) #[] #[.pointer (some ⟨w.heap.size + 1, 0, none⟩)], .func (.func 94) #[] #[.pointer (some ⟨w.heap.size + 1, 0, none⟩)], .func (.func 95) #[] #[.pointer (some ⟨w.heap.size + 1, 0, none⟩)]]) ∧
      w.heap.size + 1 < w'.heap.size ∧ w'.cell? ⟨w.heap.size + 1, 0, none⟩ = some (.func (.func 90) #[] #[]) ∧ Below w.heap.size w w' := by
  go_enter Tryz.func61, Tryz.ntmps61
  go_wp2_with fail
  refine bodyPost_ret (v := .agg #[.func (.func 91) #[] #[.pointer (some ⟨w.heap.size + 1, 0, none⟩)], .func (.func 92) #[] #[.pointer (some ⟨w.heap.size + 1, 0, none⟩)], .func (.func 94) #[] #[.pointer (some ⟨w.heap.size + 1, 0, none⟩)], .func (.func 95) #[] #[.pointer (some ⟨w.heap.size + 1, 0, none⟩)]]) (by simp [results, Tryz.results61, go_sem]) rfl ?_
  exact ⟨rfl, by simp, by simp [go_sem], bto (below_alloc _ _) (below_alloc _ _)⟩

theorem canon_sum_len {a b c d : List UInt8} {i j : Nat} (ha : a.length ≤ i) (hb : b.length ≤ j) (hc : c.length ≤ i) (hd : d.length ≤ j) : (canon (val a * val b + val c * val d)).length ≤ i + j + 2 ∧ (canon (val a * val b - val c * val d)).length ≤ i + j + 2 := by
  have h1 := mul_lt10 (val_lt_of ha) (val_lt_of hb)
  have h2 := mul_lt10 (val_lt_of hc) (val_lt_of hd)
  have h3 := two_lt10 (i + j)
  rw [← Int.natAbs_mul] at h1 h2
  exact ⟨canon_len_le _ (i + j + 1) (by omega), canon_len_le _ (i + j + 1) (by omega)⟩

set_option maxHeartbeats 1000000 in
set_option maxRecDepth 100000 in
theorem apply1_any (l l' k k' : List UInt8) (m : Nat) (w : World) (hl : l.length ≤ 100000) (hl' : l'.length ≤ 100000) (hk : k.length ≤ 100000) (hk' : k'.length ≤ 100000) (hG : Glob w) (hm : m < w.heap.size) (hc : w.cell? ⟨m, 0, none⟩ = some (.func (.func 90) #[] #[])) :
    Calls Tryz.prog 60 #[.func (.func 91) #[] #[.pointer (some ⟨m, 0, none⟩)], (Value.agg #[Value.string ⟨List.toArray l⟩, Value.string ⟨List.toArray l'⟩]), (Value.agg #[Value.string ⟨List.toArray k⟩, Value.string ⟨List.toArray k'⟩])] w fun e w' => e = .returned (Value.agg #[Value.string ⟨List.toArray (fN (fv l l' + fv k k'))⟩, Value.string ⟨List.toArray (fD (fv l l' + fv k k'))⟩]) ∧ Below w.heap.size w w' := by
  have hpl := pd_len hl' (show 1 ≤ 100000 by decide)
  have hpk := pd_len hk' (show 1 ≤ 100000 by decide)
  have hv : Rat.divInt ((val l * val (pd k') + val k * val (pd l'))) ((val (pd l') * val (pd k'))) = fv l l' + fv k k' := by
    unfold fv; rw [Rat.divInt_add_divInt _ _ (den1_ne _) (den1_ne _)]; rw [val_pd, val_pd]
  have hnl : (canon ((val l * val (pd k') + val k * val (pd l')))).length ≤ 1000000 := by
    have hl' := hpl; have hk' := hpk
    exact Nat.le_trans (canon_sum_len hl hk' hk hl').1 (by decide)
  have hdl : (canon ((val (pd l') * val (pd k')))).length ≤ 1000000 := Nat.le_trans (canon_mul_len _ _) (by omega)
  have hne : val (canon ((val (pd l') * val (pd k')))) ≠ 0 := by rw [val_canon, val_pd, val_pd]; exact Int.mul_ne_zero (den1_ne _) (den1_ne _)
  have hmd : ∀ w : World, Glob w → _ := fun w hG => made_any (canon ((val l * val (pd k') + val k * val (pd l')))) (canon ((val (pd l') * val (pd k')))) w hnl hdl hG hne
  simp only [val_canon, hv] at hmd
  have hop : ∀ w : World, Glob w → _ → _ → _ := fun w hG hm hc => op1_any l (pd l') k (pd k') m w (Nat.le_trans hl (by decide)) (Nat.le_trans hpl (by decide)) (Nat.le_trans hk (by decide)) (Nat.le_trans hpk (by decide)) hG hm hc
  obtain ⟨q, hq⟩ : ∃ q, q = fv l l' + fv k k' := ⟨_, rfl⟩
  obtain ⟨N, hN⟩ : ∃ N, N = canon ((val l * val (pd k') + val k * val (pd l'))) := ⟨_, rfl⟩
  obtain ⟨D, hD⟩ : ∃ D, D = canon ((val (pd l') * val (pd k'))) := ⟨_, rfl⟩
  simp only [← hq, ← hN, ← hD] at hmd hop ⊢
  have HM := Lib.hid hmd
  have HO := Lib.hid hop
  have HC := Lib.hid hc
  clear hq hN hD hmd hop hv hnl hdl hne hc
  go_enter Tryz.func60, Tryz.ntmps60
  go_wp2_with fail
  ((with_reducible refine (parts_any l l' _ (Nat.le_trans hl' (by decide))).mono ?_); rintro e w1 ⟨rfl, hb1⟩)
  have hx0 := ((FBox.new (w.alloc (.cells #[.string ⟨l.toArray⟩, .string ⟨l'.toArray⟩] 24)) (.string ⟨k.toArray⟩) (.string ⟨k'.toArray⟩) 24).below (below_alloc _ (.cells #[.string ⟨#[]⟩, .string ⟨#[]⟩] 24))).below hb1
  have hx := (FBox.new ((w.alloc (.cells #[.string ⟨l.toArray⟩, .string ⟨l'.toArray⟩] 24)).alloc (.cells #[.string ⟨k.toArray⟩, .string ⟨k'.toArray⟩] 24)) (.string ⟨#[]⟩) (.string ⟨#[]⟩) 24).below hb1
  have hb1 := bto (bto (bto (below_alloc w (.cells #[.string ⟨l.toArray⟩, .string ⟨l'.toArray⟩] 24)) (below_alloc _ (.cells #[.string ⟨k.toArray⟩, .string ⟨k'.toArray⟩] 24))) (below_alloc _ (.cells #[.string ⟨#[]⟩, .string ⟨#[]⟩] 24))) hb1
  rw [World.size_alloc] at hx0
  rw [World.size_alloc, World.size_alloc] at hx
  have e0 := hx0.c0
  have e1 := hx0.c1
  go_wp2_with fail
  ((with_reducible refine (parts_any k k' _ (Nat.le_trans hk' (by decide))).mono ?_); rintro e w2 ⟨rfl, hb2⟩)
  have hx := hx.below hb2
  have hb2 := bto hb1 hb2
  clear e0 e1 hx0
  go_wp2_with fail
  ((with_reducible refine (HO.out _ (by exact hG.below hb2) (by exact Nat.lt_of_lt_of_le hm hb2.size) (by exact (hb2.cell (p := ⟨m, 0, none⟩) hm).trans HC.out)).mono ?_); rintro e w3 ⟨rfl, hb3⟩)
  have hx := hx.below hb3
  have hb3 := bto hb2 hb3
  go_wp2_with fail
  ((with_reducible refine (HM.out _ (by exact hG.below hb3)).mono ?_); rintro e w4 ⟨rfl, hb4⟩)
  have hx := hx.below hb4
  have hb4 := bto hb3 hb4
  have c0 := hx.c0
  have c1 := hx.c1
  have f0 := hx.f0
  have f1 := hx.f1
  go_wp2_with fail
  have hy := hx.set (.string ⟨(fN q).toArray⟩) (.string ⟨(fD q).toArray⟩)
  have d0 := hy.c0
  have d1 := hy.c1
  refine bodyPost_ret (v := (Value.agg #[Value.string ⟨List.toArray (fN q)⟩, Value.string ⟨List.toArray (fD q)⟩])) (by simp [results, Tryz.results60, go_sem, d0, d1]) rfl ?_
  exact ⟨rfl, below_set2 hb4 (by omega) _ _⟩

set_option maxHeartbeats 1000000 in
set_option maxRecDepth 100000 in
theorem apply2_any (l l' k k' : List UInt8) (m : Nat) (w : World) (hl : l.length ≤ 100000) (hl' : l'.length ≤ 100000) (hk : k.length ≤ 100000) (hk' : k'.length ≤ 100000) (hG : Glob w) (hm : m < w.heap.size) (hc : w.cell? ⟨m, 0, none⟩ = some (.func (.func 90) #[] #[])) :
    Calls Tryz.prog 60 #[.func (.func 92) #[] #[.pointer (some ⟨m, 0, none⟩)], (Value.agg #[Value.string ⟨List.toArray l⟩, Value.string ⟨List.toArray l'⟩]), (Value.agg #[Value.string ⟨List.toArray k⟩, Value.string ⟨List.toArray k'⟩])] w fun e w' => e = .returned (Value.agg #[Value.string ⟨List.toArray (fN (fv l l' - fv k k'))⟩, Value.string ⟨List.toArray (fD (fv l l' - fv k k'))⟩]) ∧ Below w.heap.size w w' := by
  have hpl := pd_len hl' (show 1 ≤ 100000 by decide)
  have hpk := pd_len hk' (show 1 ≤ 100000 by decide)
  have hv : Rat.divInt ((val l * val (pd k') - val k * val (pd l'))) ((val (pd l') * val (pd k'))) = fv l l' - fv k k' := by
    unfold fv; rw [Rat.divInt_sub_divInt _ _ (den1_ne _) (den1_ne _)]; rw [val_pd, val_pd]
  have hnl : (canon ((val l * val (pd k') - val k * val (pd l')))).length ≤ 1000000 := by
    have hl' := hpl; have hk' := hpk
    exact Nat.le_trans (canon_sum_len hl hk' hk hl').2 (by decide)
  have hdl : (canon ((val (pd l') * val (pd k')))).length ≤ 1000000 := Nat.le_trans (canon_mul_len _ _) (by omega)
  have hne : val (canon ((val (pd l') * val (pd k')))) ≠ 0 := by rw [val_canon, val_pd, val_pd]; exact Int.mul_ne_zero (den1_ne _) (den1_ne _)
  have hmd : ∀ w : World, Glob w → _ := fun w hG => made_any (canon ((val l * val (pd k') - val k * val (pd l')))) (canon ((val (pd l') * val (pd k')))) w hnl hdl hG hne
  simp only [val_canon, hv] at hmd
  have hop : ∀ w : World, Glob w → _ → _ → _ := fun w hG hm hc => op2_any l (pd l') k (pd k') m w (Nat.le_trans hl (by decide)) (Nat.le_trans hpl (by decide)) (Nat.le_trans hk (by decide)) (Nat.le_trans hpk (by decide)) hG hm hc
  obtain ⟨q, hq⟩ : ∃ q, q = fv l l' - fv k k' := ⟨_, rfl⟩
  obtain ⟨N, hN⟩ : ∃ N, N = canon ((val l * val (pd k') - val k * val (pd l'))) := ⟨_, rfl⟩
  obtain ⟨D, hD⟩ : ∃ D, D = canon ((val (pd l') * val (pd k'))) := ⟨_, rfl⟩
  simp only [← hq, ← hN, ← hD] at hmd hop ⊢
  have HM := Lib.hid hmd
  have HO := Lib.hid hop
  have HC := Lib.hid hc
  clear hq hN hD hmd hop hv hnl hdl hne hc
  go_enter Tryz.func60, Tryz.ntmps60
  go_wp2_with fail
  ((with_reducible refine (parts_any l l' _ (Nat.le_trans hl' (by decide))).mono ?_); rintro e w1 ⟨rfl, hb1⟩)
  have hx0 := ((FBox.new (w.alloc (.cells #[.string ⟨l.toArray⟩, .string ⟨l'.toArray⟩] 24)) (.string ⟨k.toArray⟩) (.string ⟨k'.toArray⟩) 24).below (below_alloc _ (.cells #[.string ⟨#[]⟩, .string ⟨#[]⟩] 24))).below hb1
  have hx := (FBox.new ((w.alloc (.cells #[.string ⟨l.toArray⟩, .string ⟨l'.toArray⟩] 24)).alloc (.cells #[.string ⟨k.toArray⟩, .string ⟨k'.toArray⟩] 24)) (.string ⟨#[]⟩) (.string ⟨#[]⟩) 24).below hb1
  have hb1 := bto (bto (bto (below_alloc w (.cells #[.string ⟨l.toArray⟩, .string ⟨l'.toArray⟩] 24)) (below_alloc _ (.cells #[.string ⟨k.toArray⟩, .string ⟨k'.toArray⟩] 24))) (below_alloc _ (.cells #[.string ⟨#[]⟩, .string ⟨#[]⟩] 24))) hb1
  rw [World.size_alloc] at hx0
  rw [World.size_alloc, World.size_alloc] at hx
  have e0 := hx0.c0
  have e1 := hx0.c1
  go_wp2_with fail
  ((with_reducible refine (parts_any k k' _ (Nat.le_trans hk' (by decide))).mono ?_); rintro e w2 ⟨rfl, hb2⟩)
  have hx := hx.below hb2
  have hb2 := bto hb1 hb2
  clear e0 e1 hx0
  go_wp2_with fail
  ((with_reducible refine (HO.out _ (by exact hG.below hb2) (by exact Nat.lt_of_lt_of_le hm hb2.size) (by exact (hb2.cell (p := ⟨m, 0, none⟩) hm).trans HC.out)).mono ?_); rintro e w3 ⟨rfl, hb3⟩)
  have hx := hx.below hb3
  have hb3 := bto hb2 hb3
  go_wp2_with fail
  ((with_reducible refine (HM.out _ (by exact hG.below hb3)).mono ?_); rintro e w4 ⟨rfl, hb4⟩)
  have hx := hx.below hb4
  have hb4 := bto hb3 hb4
  have c0 := hx.c0
  have c1 := hx.c1
  have f0 := hx.f0
  have f1 := hx.f1
  go_wp2_with fail
  have hy := hx.set (.string ⟨(fN q).toArray⟩) (.string ⟨(fD q).toArray⟩)
  have d0 := hy.c0
  have d1 := hy.c1
  refine bodyPost_ret (v := (Value.agg #[Value.string ⟨List.toArray (fN q)⟩, Value.string ⟨List.toArray (fD q)⟩])) (by simp [results, Tryz.results60, go_sem, d0, d1]) rfl ?_
  exact ⟨rfl, below_set2 hb4 (by omega) _ _⟩

set_option maxHeartbeats 1000000 in
set_option maxRecDepth 100000 in
theorem apply3_any (l l' k k' : List UInt8) (m : Nat) (w : World) (hl : l.length ≤ 100000) (hl' : l'.length ≤ 100000) (hk : k.length ≤ 100000) (hk' : k'.length ≤ 100000) (hG : Glob w) (hm : m < w.heap.size) (hc : w.cell? ⟨m, 0, none⟩ = some (.func (.func 90) #[] #[])) :
    Calls Tryz.prog 60 #[.func (.func 94) #[] #[.pointer (some ⟨m, 0, none⟩)], (Value.agg #[Value.string ⟨List.toArray l⟩, Value.string ⟨List.toArray l'⟩]), (Value.agg #[Value.string ⟨List.toArray k⟩, Value.string ⟨List.toArray k'⟩])] w fun e w' => e = .returned (Value.agg #[Value.string ⟨List.toArray (fN (fv l l' * fv k k'))⟩, Value.string ⟨List.toArray (fD (fv l l' * fv k k'))⟩]) ∧ Below w.heap.size w w' := by
  have hpl := pd_len hl' (show 1 ≤ 100000 by decide)
  have hpk := pd_len hk' (show 1 ≤ 100000 by decide)
  have hv : Rat.divInt ((val l * val k)) ((val (pd l') * val (pd k'))) = fv l l' * fv k k' := by
    unfold fv; rw [Rat.divInt_mul_divInt]; rw [val_pd, val_pd]
  have hnl : (canon ((val l * val k))).length ≤ 1000000 := by
    have hl' := hpl; have hk' := hpk
    exact Nat.le_trans (canon_mul_len _ _) (by omega)
  have hdl : (canon ((val (pd l') * val (pd k')))).length ≤ 1000000 := Nat.le_trans (canon_mul_len _ _) (by omega)
  have hne : val (canon ((val (pd l') * val (pd k')))) ≠ 0 := by rw [val_canon, val_pd, val_pd]; exact Int.mul_ne_zero (den1_ne _) (den1_ne _)
  have hmd : ∀ w : World, Glob w → _ := fun w hG => made_any (canon ((val l * val k))) (canon ((val (pd l') * val (pd k')))) w hnl hdl hG hne
  simp only [val_canon, hv] at hmd
  have hop : ∀ w : World, Glob w → _ → _ → _ := fun w hG hm hc => op3_any l (pd l') k (pd k') m w (Nat.le_trans hl (by decide)) (Nat.le_trans hpl (by decide)) (Nat.le_trans hk (by decide)) (Nat.le_trans hpk (by decide)) hG hm hc
  obtain ⟨q, hq⟩ : ∃ q, q = fv l l' * fv k k' := ⟨_, rfl⟩
  obtain ⟨N, hN⟩ : ∃ N, N = canon ((val l * val k)) := ⟨_, rfl⟩
  obtain ⟨D, hD⟩ : ∃ D, D = canon ((val (pd l') * val (pd k'))) := ⟨_, rfl⟩
  simp only [← hq, ← hN, ← hD] at hmd hop ⊢
  have HM := Lib.hid hmd
  have HO := Lib.hid hop
  have HC := Lib.hid hc
  clear hq hN hD hmd hop hv hnl hdl hne hc
  go_enter Tryz.func60, Tryz.ntmps60
  go_wp2_with fail
  ((with_reducible refine (parts_any l l' _ (Nat.le_trans hl' (by decide))).mono ?_); rintro e w1 ⟨rfl, hb1⟩)
  have hx0 := ((FBox.new (w.alloc (.cells #[.string ⟨l.toArray⟩, .string ⟨l'.toArray⟩] 24)) (.string ⟨k.toArray⟩) (.string ⟨k'.toArray⟩) 24).below (below_alloc _ (.cells #[.string ⟨#[]⟩, .string ⟨#[]⟩] 24))).below hb1
  have hx := (FBox.new ((w.alloc (.cells #[.string ⟨l.toArray⟩, .string ⟨l'.toArray⟩] 24)).alloc (.cells #[.string ⟨k.toArray⟩, .string ⟨k'.toArray⟩] 24)) (.string ⟨#[]⟩) (.string ⟨#[]⟩) 24).below hb1
  have hb1 := bto (bto (bto (below_alloc w (.cells #[.string ⟨l.toArray⟩, .string ⟨l'.toArray⟩] 24)) (below_alloc _ (.cells #[.string ⟨k.toArray⟩, .string ⟨k'.toArray⟩] 24))) (below_alloc _ (.cells #[.string ⟨#[]⟩, .string ⟨#[]⟩] 24))) hb1
  rw [World.size_alloc] at hx0
  rw [World.size_alloc, World.size_alloc] at hx
  have e0 := hx0.c0
  have e1 := hx0.c1
  go_wp2_with fail
  ((with_reducible refine (parts_any k k' _ (Nat.le_trans hk' (by decide))).mono ?_); rintro e w2 ⟨rfl, hb2⟩)
  have hx := hx.below hb2
  have hb2 := bto hb1 hb2
  clear e0 e1 hx0
  go_wp2_with fail
  ((with_reducible refine (HO.out _ (by exact hG.below hb2) (by exact Nat.lt_of_lt_of_le hm hb2.size) (by exact (hb2.cell (p := ⟨m, 0, none⟩) hm).trans HC.out)).mono ?_); rintro e w3 ⟨rfl, hb3⟩)
  have hx := hx.below hb3
  have hb3 := bto hb2 hb3
  go_wp2_with fail
  ((with_reducible refine (HM.out _ (by exact hG.below hb3)).mono ?_); rintro e w4 ⟨rfl, hb4⟩)
  have hx := hx.below hb4
  have hb4 := bto hb3 hb4
  have c0 := hx.c0
  have c1 := hx.c1
  have f0 := hx.f0
  have f1 := hx.f1
  go_wp2_with fail
  have hy := hx.set (.string ⟨(fN q).toArray⟩) (.string ⟨(fD q).toArray⟩)
  have d0 := hy.c0
  have d1 := hy.c1
  refine bodyPost_ret (v := (Value.agg #[Value.string ⟨List.toArray (fN q)⟩, Value.string ⟨List.toArray (fD q)⟩])) (by simp [results, Tryz.results60, go_sem, d0, d1]) rfl ?_
  exact ⟨rfl, below_set2 hb4 (by omega) _ _⟩

set_option maxHeartbeats 1000000 in
set_option maxRecDepth 100000 in
theorem apply4_any (l l' k k' : List UInt8) (m : Nat) (w : World) (hl : l.length ≤ 100000) (hl' : l'.length ≤ 100000) (hk : k.length ≤ 100000) (hk' : k'.length ≤ 100000) (hG : Glob w) (h0 : val k ≠ 0) (hm : m < w.heap.size) (hc : w.cell? ⟨m, 0, none⟩ = some (.func (.func 90) #[] #[])) :
    Calls Tryz.prog 60 #[.func (.func 95) #[] #[.pointer (some ⟨m, 0, none⟩)], (Value.agg #[Value.string ⟨List.toArray l⟩, Value.string ⟨List.toArray l'⟩]), (Value.agg #[Value.string ⟨List.toArray k⟩, Value.string ⟨List.toArray k'⟩])] w fun e w' => e = .returned (Value.agg #[Value.string ⟨List.toArray (fN (fv l l' / fv k k'))⟩, Value.string ⟨List.toArray (fD (fv l l' / fv k k'))⟩]) ∧ Below w.heap.size w w' := by
  have hpl := pd_len hl' (show 1 ≤ 100000 by decide)
  have hpk := pd_len hk' (show 1 ≤ 100000 by decide)
  have hv : Rat.divInt ((val l * val (pd k'))) ((val (pd l') * val k)) = fv l l' / fv k k' := by
    unfold fv; rw [Rat.div_def, Rat.inv_divInt, Rat.divInt_mul_divInt]; rw [val_pd, val_pd]
  have hnl : (canon ((val l * val (pd k')))).length ≤ 1000000 := by
    have hl' := hpl; have hk' := hpk
    exact Nat.le_trans (canon_mul_len _ _) (by omega)
  have hdl : (canon ((val (pd l') * val k))).length ≤ 1000000 := Nat.le_trans (canon_mul_len _ _) (by omega)
  have hne : val (canon ((val (pd l') * val k))) ≠ 0 := by rw [val_canon, val_pd]; exact Int.mul_ne_zero (den1_ne _) h0
  have hmd : ∀ w : World, Glob w → _ := fun w hG => made_any (canon ((val l * val (pd k')))) (canon ((val (pd l') * val k))) w hnl hdl hG hne
  simp only [val_canon, hv] at hmd
  have hop : ∀ w : World, Glob w → _ → _ → _ := fun w hG hm hc => op4_any l (pd l') k (pd k') m w (Nat.le_trans hl (by decide)) (Nat.le_trans hpl (by decide)) (Nat.le_trans hk (by decide)) (Nat.le_trans hpk (by decide)) hG hm hc
  obtain ⟨q, hq⟩ : ∃ q, q = fv l l' / fv k k' := ⟨_, rfl⟩
  obtain ⟨N, hN⟩ : ∃ N, N = canon ((val l * val (pd k'))) := ⟨_, rfl⟩
  obtain ⟨D, hD⟩ : ∃ D, D = canon ((val (pd l') * val k)) := ⟨_, rfl⟩
  simp only [← hq, ← hN, ← hD] at hmd hop ⊢
  have HM := Lib.hid hmd
  have HO := Lib.hid hop
  have HC := Lib.hid hc
  clear hq hN hD hmd hop hv hnl hdl hne hc
  go_enter Tryz.func60, Tryz.ntmps60
  go_wp2_with fail
  ((with_reducible refine (parts_any l l' _ (Nat.le_trans hl' (by decide))).mono ?_); rintro e w1 ⟨rfl, hb1⟩)
  have hx0 := ((FBox.new (w.alloc (.cells #[.string ⟨l.toArray⟩, .string ⟨l'.toArray⟩] 24)) (.string ⟨k.toArray⟩) (.string ⟨k'.toArray⟩) 24).below (below_alloc _ (.cells #[.string ⟨#[]⟩, .string ⟨#[]⟩] 24))).below hb1
  have hx := (FBox.new ((w.alloc (.cells #[.string ⟨l.toArray⟩, .string ⟨l'.toArray⟩] 24)).alloc (.cells #[.string ⟨k.toArray⟩, .string ⟨k'.toArray⟩] 24)) (.string ⟨#[]⟩) (.string ⟨#[]⟩) 24).below hb1
  have hb1 := bto (bto (bto (below_alloc w (.cells #[.string ⟨l.toArray⟩, .string ⟨l'.toArray⟩] 24)) (below_alloc _ (.cells #[.string ⟨k.toArray⟩, .string ⟨k'.toArray⟩] 24))) (below_alloc _ (.cells #[.string ⟨#[]⟩, .string ⟨#[]⟩] 24))) hb1
  rw [World.size_alloc] at hx0
  rw [World.size_alloc, World.size_alloc] at hx
  have e0 := hx0.c0
  have e1 := hx0.c1
  go_wp2_with fail
  ((with_reducible refine (parts_any k k' _ (Nat.le_trans hk' (by decide))).mono ?_); rintro e w2 ⟨rfl, hb2⟩)
  have hx := hx.below hb2
  have hb2 := bto hb1 hb2
  clear e0 e1 hx0
  go_wp2_with fail
  ((with_reducible refine (HO.out _ (by exact hG.below hb2) (by exact Nat.lt_of_lt_of_le hm hb2.size) (by exact (hb2.cell (p := ⟨m, 0, none⟩) hm).trans HC.out)).mono ?_); rintro e w3 ⟨rfl, hb3⟩)
  have hx := hx.below hb3
  have hb3 := bto hb2 hb3
  go_wp2_with fail
  ((with_reducible refine (HM.out _ (by exact hG.below hb3)).mono ?_); rintro e w4 ⟨rfl, hb4⟩)
  have hx := hx.below hb4
  have hb4 := bto hb3 hb4
  have c0 := hx.c0
  have c1 := hx.c1
  have f0 := hx.f0
  have f1 := hx.f1
  go_wp2_with fail
  have hy := hx.set (.string ⟨(fN q).toArray⟩) (.string ⟨(fD q).toArray⟩)
  have d0 := hy.c0
  have d1 := hy.c1
  refine bodyPost_ret (v := (Value.agg #[Value.string ⟨List.toArray (fN q)⟩, Value.string ⟨List.toArray (fD q)⟩])) (by simp [results, Tryz.results60, go_sem, d0, d1]) rfl ?_
  exact ⟨rfl, below_set2 hb4 (by omega) _ _⟩
end Go.Proofs.YtjhafnnfkaejgaaGreatDoor
