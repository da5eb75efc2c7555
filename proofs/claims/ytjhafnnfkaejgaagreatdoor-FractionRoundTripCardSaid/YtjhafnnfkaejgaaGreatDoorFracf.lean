/- Package fraction: Add, Sub, Mul, Quo. Printed by wip/tools/gen_arith.py. -/
import Derived.Test.YtjhafnnfkaejgaaGreatDoorFrace
namespace Go.Proofs.YtjhafnnfkaejgaaGreatDoor
open Go.RowKit Num

set_option maxHeartbeats 2000000 in
set_option maxRecDepth 100000 in
theorem Add_any (l l' k k' : List UInt8) (w : World) (hl : l.length ≤ 100000) (hl' : l'.length ≤ 100000) (hk : k.length ≤ 100000) (hk' : k'.length ≤ 100000) (hG : Glob w) :
    Calls Tryz.prog 27 #[(Value.agg #[Value.string ⟨List.toArray l⟩, Value.string ⟨List.toArray l'⟩]), (Value.agg #[Value.string ⟨List.toArray k⟩, Value.string ⟨List.toArray k'⟩])] w fun e w' => e = .returned ((Value.agg #[Value.string ⟨List.toArray (fN (fv l l' + fv k k'))⟩, Value.string ⟨List.toArray (fD (fv l l' + fv k k'))⟩])) ∧ Below w.heap.size w w' := by
  have hap : ∀ (m : Nat) (w : World), Glob w → _ → _ → _ := fun m w hG hm hc => apply1_any l l' k k' m w hl hl' hk hk' hG hm hc
  obtain ⟨q, hq⟩ : ∃ q, q = fv l l' + fv k k' := ⟨_, rfl⟩
  simp only [← hq] at hap ⊢
  have HA := Lib.hid hap
  clear hq hap
  have hix : ∀ (p1 p2 p3 p4 : Value) (w : World), (Instr.index 62 (.agg #[.func (.func 91) #[] #[p1], .func (.func 92) #[] #[p2], .func (.func 94) #[] #[p3], .func (.func 95) #[] #[p4]]) (.int .i64 0)).run Tryz.prog w = .ok (.func (.func 91) #[] #[p1]) w := fun _ _ _ _ _ => by kernel_rfl
  have X0 := ((FBox.new w (.string ⟨l.toArray⟩) (.string ⟨l'.toArray⟩) 24).below (below_alloc _ (.cells #[.string ⟨k.toArray⟩, .string ⟨k'.toArray⟩] 24))).below (below_alloc _ (.cells #[.string ⟨#[]⟩, .string ⟨#[]⟩] 24))
  have X1 := (FBox.new (w.alloc (.cells #[.string ⟨l.toArray⟩, .string ⟨l'.toArray⟩] 24)) (.string ⟨k.toArray⟩) (.string ⟨k'.toArray⟩) 24).below (below_alloc _ (.cells #[.string ⟨#[]⟩, .string ⟨#[]⟩] 24))
  have X2 := FBox.new ((w.alloc (.cells #[.string ⟨l.toArray⟩, .string ⟨l'.toArray⟩] 24)).alloc (.cells #[.string ⟨k.toArray⟩, .string ⟨k'.toArray⟩] 24)) (.string ⟨#[]⟩) (.string ⟨#[]⟩) 24
  have hbW := bto (below_alloc w (.cells #[.string ⟨l.toArray⟩, .string ⟨l'.toArray⟩] 24)) (bto (below_alloc _ (.cells #[.string ⟨k.toArray⟩, .string ⟨k'.toArray⟩] 24)) (below_alloc _ (.cells #[.string ⟨#[]⟩, .string ⟨#[]⟩] 24)))
  rw [World.size_alloc] at X1
  rw [World.size_alloc, World.size_alloc] at X2
  obtain ⟨W, hW⟩ : ∃ W, W = ((w.alloc (.cells #[.string ⟨l.toArray⟩, .string ⟨l'.toArray⟩] 24)).alloc (.cells #[.string ⟨k.toArray⟩, .string ⟨k'.toArray⟩] 24)).alloc (.cells #[.string ⟨#[]⟩, .string ⟨#[]⟩] 24) := ⟨_, rfl⟩
  obtain ⟨b0, hb0⟩ : ∃ b, b = w.heap.size := ⟨_, rfl⟩
  obtain ⟨b1, hb1⟩ : ∃ b, b = w.heap.size + 1 := ⟨_, rfl⟩
  obtain ⟨b2, hb2⟩ : ∃ b, b = w.heap.size + 1 + 1 := ⟨_, rfl⟩
  rw [← hW] at X0 X1 X2 hbW
  rw [← hb0] at X0
  rw [← hb1] at X1
  rw [← hb2] at X2
  have d02 : ¬ b0 = b2 := by omega
  have d12 : ¬ b1 = b2 := by omega
  have d20 : ¬ b2 = b0 := by omega
  have d21 : ¬ b2 = b1 := by omega
  have hwb : w.heap.size ≤ b2 := by omega
  have HW := Lib.hid (And.intro hW (And.intro hb0 (And.intro hb1 hb2)))
  clear hW hb0 hb1 hb2
  go_enter Tryz.func27, Tryz.ntmps27
  go_wp2_with fail
  rw [← HW.out.1, ← HW.out.2.2.2, ← HW.out.2.2.1, ← HW.out.2.1]
  have hbc := bdr W
  have x0 := X0.below hbc; have x1 := X1.below hbc; have x2 := X2.below hbc; have q0 := x0.c0; have q1 := x0.c1; have q2 := x1.c0; have q3 := x1.c1; have c0 := x2.c0; have c1 := x2.c1; have f0 := x2.f0; have f1 := x2.f1
  go_region_held3 (fun w' => w'.cell? ⟨b0, 0, none⟩ = some (.string ⟨l.toArray⟩) ∧ w'.cell? ⟨b0, 1, none⟩ = some (.string ⟨l'.toArray⟩) ∧ w'.cell? ⟨b1, 0, none⟩ = some (.string ⟨k.toArray⟩) ∧ w'.cell? ⟨b1, 1, none⟩ = some (.string ⟨k'.toArray⟩))
    (first | go_keep | (dsimp only; exact ⟨q0, q1, q2, q3⟩))
    (first
      | (go_at_call 61; (with_reducible refine Calls.mono (operations_any _) ?_); rintro e w1 ⟨rfl, hm1, hc1, hb1⟩; have hm1 : W.heap.size + 1 < w1.heap.size := hm1; have hc1 : w1.cell? ⟨W.heap.size + 1, 0, none⟩ = some (.func (.func 90) #[] #[]) := hc1; have hbc := bto hbc hb1; have x0 := X0.below hbc; have x1 := X1.below hbc; have x2 := X2.below hbc; have q0 := x0.c0; have q1 := x0.c1; have q2 := x1.c0; have q3 := x1.c1; have c0 := x2.c0; have c1 := x2.c1; have f0 := x2.f0; have f1 := x2.f1)
      | (go_at_call 60; (with_reducible refine Calls.mono (HA.out _ _ (by exact (hG.below hbW).below hbc) (by exact hm1) (by exact hc1)) ?_); rintro e w2 ⟨rfl, hb2⟩; have hbc := bto hbc hb2; have x0 := X0.below hbc; have x1 := X1.below hbc; have x2 := X2.below hbc; have q0 := x0.c0; have q1 := x0.c1; have q2 := x1.c0; have q3 := x1.c1; have c0 := x2.c0; have c1 := x2.c1; have f0 := x2.f0; have f1 := x2.f1))
  go_wp2
  have hy := x2.set (.string ⟨(fN q).toArray⟩) (.string ⟨(fD q).toArray⟩)
  have z0 := hy.c0
  have z1 := hy.c1
  refine bodyPost_ret (v := (Value.agg #[Value.string ⟨List.toArray (fN q)⟩, Value.string ⟨List.toArray (fD q)⟩])) (by simp [results, Tryz.results27, go_sem, z0, z1]) rfl ?_
  exact ⟨rfl, below_set2 (bto hbW hbc) hwb _ _⟩

set_option maxHeartbeats 2000000 in
set_option maxRecDepth 100000 in
theorem Sub_any (l l' k k' : List UInt8) (w : World) (hl : l.length ≤ 100000) (hl' : l'.length ≤ 100000) (hk : k.length ≤ 100000) (hk' : k'.length ≤ 100000) (hG : Glob w) :
    Calls Tryz.prog 26 #[(Value.agg #[Value.string ⟨List.toArray l⟩, Value.string ⟨List.toArray l'⟩]), (Value.agg #[Value.string ⟨List.toArray k⟩, Value.string ⟨List.toArray k'⟩])] w fun e w' => e = .returned ((Value.agg #[Value.string ⟨List.toArray (fN (fv l l' - fv k k'))⟩, Value.string ⟨List.toArray (fD (fv l l' - fv k k'))⟩])) ∧ Below w.heap.size w w' := by
  have hap : ∀ (m : Nat) (w : World), Glob w → _ → _ → _ := fun m w hG hm hc => apply2_any l l' k k' m w hl hl' hk hk' hG hm hc
  obtain ⟨q, hq⟩ : ∃ q, q = fv l l' - fv k k' := ⟨_, rfl⟩
  simp only [← hq] at hap ⊢
  have HA := Lib.hid hap
  clear hq hap
  have hix : ∀ (p1 p2 p3 p4 : Value) (w : World), (Instr.index 62 (.agg #[.func (.func 91) #[] #[p1], .func (.func 92) #[] #[p2], .func (.func 94) #[] #[p3], .func (.func 95) #[] #[p4]]) (.int .i64 1)).run Tryz.prog w = .ok (.func (.func 92) #[] #[p2]) w := fun _ _ _ _ _ => by kernel_rfl
  have X0 := ((FBox.new w (.string ⟨l.toArray⟩) (.string ⟨l'.toArray⟩) 24).below (below_alloc _ (.cells #[.string ⟨k.toArray⟩, .string ⟨k'.toArray⟩] 24))).below (below_alloc _ (.cells #[.string ⟨#[]⟩, .string ⟨#[]⟩] 24))
  have X1 := (FBox.new (w.alloc (.cells #[.string ⟨l.toArray⟩, .string ⟨l'.toArray⟩] 24)) (.string ⟨k.toArray⟩) (.string ⟨k'.toArray⟩) 24).below (below_alloc _ (.cells #[.string ⟨#[]⟩, .string ⟨#[]⟩] 24))
  have X2 := FBox.new ((w.alloc (.cells #[.string ⟨l.toArray⟩, .string ⟨l'.toArray⟩] 24)).alloc (.cells #[.string ⟨k.toArray⟩, .string ⟨k'.toArray⟩] 24)) (.string ⟨#[]⟩) (.string ⟨#[]⟩) 24
  have hbW := bto (below_alloc w (.cells #[.string ⟨l.toArray⟩, .string ⟨l'.toArray⟩] 24)) (bto (below_alloc _ (.cells #[.string ⟨k.toArray⟩, .string ⟨k'.toArray⟩] 24)) (below_alloc _ (.cells #[.string ⟨#[]⟩, .string ⟨#[]⟩] 24)))
  rw [World.size_alloc] at X1
  rw [World.size_alloc, World.size_alloc] at X2
  obtain ⟨W, hW⟩ : ∃ W, W = ((w.alloc (.cells #[.string ⟨l.toArray⟩, .string ⟨l'.toArray⟩] 24)).alloc (.cells #[.string ⟨k.toArray⟩, .string ⟨k'.toArray⟩] 24)).alloc (.cells #[.string ⟨#[]⟩, .string ⟨#[]⟩] 24) := ⟨_, rfl⟩
  obtain ⟨b0, hb0⟩ : ∃ b, b = w.heap.size := ⟨_, rfl⟩
  obtain ⟨b1, hb1⟩ : ∃ b, b = w.heap.size + 1 := ⟨_, rfl⟩
  obtain ⟨b2, hb2⟩ : ∃ b, b = w.heap.size + 1 + 1 := ⟨_, rfl⟩
  rw [← hW] at X0 X1 X2 hbW
  rw [← hb0] at X0
  rw [← hb1] at X1
  rw [← hb2] at X2
  have d02 : ¬ b0 = b2 := by omega
  have d12 : ¬ b1 = b2 := by omega
  have d20 : ¬ b2 = b0 := by omega
  have d21 : ¬ b2 = b1 := by omega
  have hwb : w.heap.size ≤ b2 := by omega
  have HW := Lib.hid (And.intro hW (And.intro hb0 (And.intro hb1 hb2)))
  clear hW hb0 hb1 hb2
  go_enter Tryz.func26, Tryz.ntmps26
  go_wp2_with fail
  rw [← HW.out.1, ← HW.out.2.2.2, ← HW.out.2.2.1, ← HW.out.2.1]
  have hbc := bdr W
  have x0 := X0.below hbc; have x1 := X1.below hbc; have x2 := X2.below hbc; have q0 := x0.c0; have q1 := x0.c1; have q2 := x1.c0; have q3 := x1.c1; have c0 := x2.c0; have c1 := x2.c1; have f0 := x2.f0; have f1 := x2.f1
  go_region_held3 (fun w' => w'.cell? ⟨b0, 0, none⟩ = some (.string ⟨l.toArray⟩) ∧ w'.cell? ⟨b0, 1, none⟩ = some (.string ⟨l'.toArray⟩) ∧ w'.cell? ⟨b1, 0, none⟩ = some (.string ⟨k.toArray⟩) ∧ w'.cell? ⟨b1, 1, none⟩ = some (.string ⟨k'.toArray⟩))
    (first | go_keep | (dsimp only; exact ⟨q0, q1, q2, q3⟩))
    (first
      | (go_at_call 61; (with_reducible refine Calls.mono (operations_any _) ?_); rintro e w1 ⟨rfl, hm1, hc1, hb1⟩; have hm1 : W.heap.size + 1 < w1.heap.size := hm1; have hc1 : w1.cell? ⟨W.heap.size + 1, 0, none⟩ = some (.func (.func 90) #[] #[]) := hc1; have hbc := bto hbc hb1; have x0 := X0.below hbc; have x1 := X1.below hbc; have x2 := X2.below hbc; have q0 := x0.c0; have q1 := x0.c1; have q2 := x1.c0; have q3 := x1.c1; have c0 := x2.c0; have c1 := x2.c1; have f0 := x2.f0; have f1 := x2.f1)
      | (go_at_call 60; (with_reducible refine Calls.mono (HA.out _ _ (by exact (hG.below hbW).below hbc) (by exact hm1) (by exact hc1)) ?_); rintro e w2 ⟨rfl, hb2⟩; have hbc := bto hbc hb2; have x0 := X0.below hbc; have x1 := X1.below hbc; have x2 := X2.below hbc; have q0 := x0.c0; have q1 := x0.c1; have q2 := x1.c0; have q3 := x1.c1; have c0 := x2.c0; have c1 := x2.c1; have f0 := x2.f0; have f1 := x2.f1))
  go_wp2
  have hy := x2.set (.string ⟨(fN q).toArray⟩) (.string ⟨(fD q).toArray⟩)
  have z0 := hy.c0
  have z1 := hy.c1
  refine bodyPost_ret (v := (Value.agg #[Value.string ⟨List.toArray (fN q)⟩, Value.string ⟨List.toArray (fD q)⟩])) (by simp [results, Tryz.results26, go_sem, z0, z1]) rfl ?_
  exact ⟨rfl, below_set2 (bto hbW hbc) hwb _ _⟩

set_option maxHeartbeats 2000000 in
set_option maxRecDepth 100000 in
theorem Mul_any (l l' k k' : List UInt8) (w : World) (hl : l.length ≤ 100000) (hl' : l'.length ≤ 100000) (hk : k.length ≤ 100000) (hk' : k'.length ≤ 100000) (hG : Glob w) :
    Calls Tryz.prog 28 #[(Value.agg #[Value.string ⟨List.toArray l⟩, Value.string ⟨List.toArray l'⟩]), (Value.agg #[Value.string ⟨List.toArray k⟩, Value.string ⟨List.toArray k'⟩])] w fun e w' => e = .returned ((Value.agg #[Value.string ⟨List.toArray (fN (fv l l' * fv k k'))⟩, Value.string ⟨List.toArray (fD (fv l l' * fv k k'))⟩])) ∧ Below w.heap.size w w' := by
  have hap : ∀ (m : Nat) (w : World), Glob w → _ → _ → _ := fun m w hG hm hc => apply3_any l l' k k' m w hl hl' hk hk' hG hm hc
  obtain ⟨q, hq⟩ : ∃ q, q = fv l l' * fv k k' := ⟨_, rfl⟩
  simp only [← hq] at hap ⊢
  have HA := Lib.hid hap
  clear hq hap
  have hix : ∀ (p1 p2 p3 p4 : Value) (w : World), (Instr.index 62 (.agg #[.func (.func 91) #[] #[p1], .func (.func 92) #[] #[p2], .func (.func 94) #[] #[p3], .func (.func 95) #[] #[p4]]) (.int .i64 2)).run Tryz.prog w = .ok (.func (.func 94) #[] #[p3]) w := fun _ _ _ _ _ => by kernel_rfl
  have X0 := ((FBox.new w (.string ⟨l.toArray⟩) (.string ⟨l'.toArray⟩) 24).below (below_alloc _ (.cells #[.string ⟨k.toArray⟩, .string ⟨k'.toArray⟩] 24))).below (below_alloc _ (.cells #[.string ⟨#[]⟩, .string ⟨#[]⟩] 24))
  have X1 := (FBox.new (w.alloc (.cells #[.string ⟨l.toArray⟩, .string ⟨l'.toArray⟩] 24)) (.string ⟨k.toArray⟩) (.string ⟨k'.toArray⟩) 24).below (below_alloc _ (.cells #[.string ⟨#[]⟩, .string ⟨#[]⟩] 24))
  have X2 := FBox.new ((w.alloc (.cells #[.string ⟨l.toArray⟩, .string ⟨l'.toArray⟩] 24)).alloc (.cells #[.string ⟨k.toArray⟩, .string ⟨k'.toArray⟩] 24)) (.string ⟨#[]⟩) (.string ⟨#[]⟩) 24
  have hbW := bto (below_alloc w (.cells #[.string ⟨l.toArray⟩, .string ⟨l'.toArray⟩] 24)) (bto (below_alloc _ (.cells #[.string ⟨k.toArray⟩, .string ⟨k'.toArray⟩] 24)) (below_alloc _ (.cells #[.string ⟨#[]⟩, .string ⟨#[]⟩] 24)))
  rw [World.size_alloc] at X1
  rw [World.size_alloc, World.size_alloc] at X2
  obtain ⟨W, hW⟩ : ∃ W, W = ((w.alloc (.cells #[.string ⟨l.toArray⟩, .string ⟨l'.toArray⟩] 24)).alloc (.cells #[.string ⟨k.toArray⟩, .string ⟨k'.toArray⟩] 24)).alloc (.cells #[.string ⟨#[]⟩, .string ⟨#[]⟩] 24) := ⟨_, rfl⟩
  obtain ⟨b0, hb0⟩ : ∃ b, b = w.heap.size := ⟨_, rfl⟩
  obtain ⟨b1, hb1⟩ : ∃ b, b = w.heap.size + 1 := ⟨_, rfl⟩
  obtain ⟨b2, hb2⟩ : ∃ b, b = w.heap.size + 1 + 1 := ⟨_, rfl⟩
  rw [← hW] at X0 X1 X2 hbW
  rw [← hb0] at X0
  rw [← hb1] at X1
  rw [← hb2] at X2
  have d02 : ¬ b0 = b2 := by omega
  have d12 : ¬ b1 = b2 := by omega
  have d20 : ¬ b2 = b0 := by omega
  have d21 : ¬ b2 = b1 := by omega
  have hwb : w.heap.size ≤ b2 := by omega
  have HW := Lib.hid (And.intro hW (And.intro hb0 (And.intro hb1 hb2)))
  clear hW hb0 hb1 hb2
  go_enter Tryz.func28, Tryz.ntmps28
  go_wp2_with fail
  rw [← HW.out.1, ← HW.out.2.2.2, ← HW.out.2.2.1, ← HW.out.2.1]
  have hbc := bdr W
  have x0 := X0.below hbc; have x1 := X1.below hbc; have x2 := X2.below hbc; have q0 := x0.c0; have q1 := x0.c1; have q2 := x1.c0; have q3 := x1.c1; have c0 := x2.c0; have c1 := x2.c1; have f0 := x2.f0; have f1 := x2.f1
  go_region_held3 (fun w' => w'.cell? ⟨b0, 0, none⟩ = some (.string ⟨l.toArray⟩) ∧ w'.cell? ⟨b0, 1, none⟩ = some (.string ⟨l'.toArray⟩) ∧ w'.cell? ⟨b1, 0, none⟩ = some (.string ⟨k.toArray⟩) ∧ w'.cell? ⟨b1, 1, none⟩ = some (.string ⟨k'.toArray⟩))
    (first | go_keep | (dsimp only; exact ⟨q0, q1, q2, q3⟩))
    (first
      | (go_at_call 61; (with_reducible refine Calls.mono (operations_any _) ?_); rintro e w1 ⟨rfl, hm1, hc1, hb1⟩; have hm1 : W.heap.size + 1 < w1.heap.size := hm1; have hc1 : w1.cell? ⟨W.heap.size + 1, 0, none⟩ = some (.func (.func 90) #[] #[]) := hc1; have hbc := bto hbc hb1; have x0 := X0.below hbc; have x1 := X1.below hbc; have x2 := X2.below hbc; have q0 := x0.c0; have q1 := x0.c1; have q2 := x1.c0; have q3 := x1.c1; have c0 := x2.c0; have c1 := x2.c1; have f0 := x2.f0; have f1 := x2.f1)
      | (go_at_call 60; (with_reducible refine Calls.mono (HA.out _ _ (by exact (hG.below hbW).below hbc) (by exact hm1) (by exact hc1)) ?_); rintro e w2 ⟨rfl, hb2⟩; have hbc := bto hbc hb2; have x0 := X0.below hbc; have x1 := X1.below hbc; have x2 := X2.below hbc; have q0 := x0.c0; have q1 := x0.c1; have q2 := x1.c0; have q3 := x1.c1; have c0 := x2.c0; have c1 := x2.c1; have f0 := x2.f0; have f1 := x2.f1))
  go_wp2
  have hy := x2.set (.string ⟨(fN q).toArray⟩) (.string ⟨(fD q).toArray⟩)
  have z0 := hy.c0
  have z1 := hy.c1
  refine bodyPost_ret (v := (Value.agg #[Value.string ⟨List.toArray (fN q)⟩, Value.string ⟨List.toArray (fD q)⟩])) (by simp [results, Tryz.results28, go_sem, z0, z1]) rfl ?_
  exact ⟨rfl, below_set2 (bto hbW hbc) hwb _ _⟩

set_option maxHeartbeats 2000000 in
set_option maxRecDepth 100000 in
theorem Quo_any (l l' k k' : List UInt8) (w : World) (hl : l.length ≤ 100000) (hl' : l'.length ≤ 100000) (hk : k.length ≤ 100000) (hk' : k'.length ≤ 100000) (hG : Glob w) (h0 : val k ≠ 0) :
    Calls Tryz.prog 31 #[(Value.agg #[Value.string ⟨List.toArray l⟩, Value.string ⟨List.toArray l'⟩]), (Value.agg #[Value.string ⟨List.toArray k⟩, Value.string ⟨List.toArray k'⟩])] w fun e w' => e = .returned (.tuple #[(Value.agg #[Value.string ⟨List.toArray (fN (fv l l' / fv k k'))⟩, Value.string ⟨List.toArray (fD (fv l l' / fv k k'))⟩]), .int .i64 0]) ∧ Below w.heap.size w w' := by
  have hap : ∀ (m : Nat) (w : World), Glob w → _ → _ → _ := fun m w hG hm hc => apply4_any l l' k k' m w hl hl' hk hk' hG h0 hm hc
  obtain ⟨q, hq⟩ : ∃ q, q = fv l l' / fv k k' := ⟨_, rfl⟩
  simp only [← hq] at hap ⊢
  have HA := Lib.hid hap
  clear hq hap
  have hix : ∀ (p1 p2 p3 p4 : Value) (w : World), (Instr.index 62 (.agg #[.func (.func 91) #[] #[p1], .func (.func 92) #[] #[p2], .func (.func 94) #[] #[p3], .func (.func 95) #[] #[p4]]) (.int .i64 3)).run Tryz.prog w = .ok (.func (.func 95) #[] #[p4]) w := fun _ _ _ _ _ => by kernel_rfl
  have X0 := ((FBox.new w (.string ⟨l.toArray⟩) (.string ⟨l'.toArray⟩) 24).below (below_alloc _ (.cells #[.string ⟨k.toArray⟩, .string ⟨k'.toArray⟩] 24))).below (below_alloc _ (.cells #[.string ⟨#[]⟩, .string ⟨#[]⟩] 24))
  have X1 := (FBox.new (w.alloc (.cells #[.string ⟨l.toArray⟩, .string ⟨l'.toArray⟩] 24)) (.string ⟨k.toArray⟩) (.string ⟨k'.toArray⟩) 24).below (below_alloc _ (.cells #[.string ⟨#[]⟩, .string ⟨#[]⟩] 24))
  have X2 := FBox.new ((w.alloc (.cells #[.string ⟨l.toArray⟩, .string ⟨l'.toArray⟩] 24)).alloc (.cells #[.string ⟨k.toArray⟩, .string ⟨k'.toArray⟩] 24)) (.string ⟨#[]⟩) (.string ⟨#[]⟩) 24
  have hbW := bto (below_alloc w (.cells #[.string ⟨l.toArray⟩, .string ⟨l'.toArray⟩] 24)) (bto (below_alloc _ (.cells #[.string ⟨k.toArray⟩, .string ⟨k'.toArray⟩] 24)) (below_alloc _ (.cells #[.string ⟨#[]⟩, .string ⟨#[]⟩] 24)))
  rw [World.size_alloc] at X1
  rw [World.size_alloc, World.size_alloc] at X2
  obtain ⟨W, hW⟩ : ∃ W, W = ((w.alloc (.cells #[.string ⟨l.toArray⟩, .string ⟨l'.toArray⟩] 24)).alloc (.cells #[.string ⟨k.toArray⟩, .string ⟨k'.toArray⟩] 24)).alloc (.cells #[.string ⟨#[]⟩, .string ⟨#[]⟩] 24) := ⟨_, rfl⟩
  obtain ⟨b0, hb0⟩ : ∃ b, b = w.heap.size := ⟨_, rfl⟩
  obtain ⟨b1, hb1⟩ : ∃ b, b = w.heap.size + 1 := ⟨_, rfl⟩
  obtain ⟨b2, hb2⟩ : ∃ b, b = w.heap.size + 1 + 1 := ⟨_, rfl⟩
  rw [← hW] at X0 X1 X2 hbW
  rw [← hb0] at X0
  rw [← hb1] at X1
  rw [← hb2] at X2
  have d02 : ¬ b0 = b2 := by omega
  have d12 : ¬ b1 = b2 := by omega
  have d20 : ¬ b2 = b0 := by omega
  have d21 : ¬ b2 = b1 := by omega
  have hwb : w.heap.size ≤ b2 := by omega
  have HW := Lib.hid (And.intro hW (And.intro hb0 (And.intro hb1 hb2)))
  clear hW hb0 hb1 hb2
  have hcc := cmp0 (val k)
  obtain ⟨cz, hcz⟩ : ∃ cz, cz = cmpZ (val k) (val []) := ⟨_, rfl⟩
  have hcz0 : (cz == 0) = false := by rw [hcz, hcc]; by_cases h1 : val k < 0 <;> simp [h1]; omega
  have HC := Lib.hid hcz
  clear hcz hcc h0
  go_enter Tryz.func31, Tryz.ntmps31
  go_wp2_with fail
  rw [← HW.out.1, ← HW.out.2.2.2, ← HW.out.2.2.1, ← HW.out.2.1]
  ((with_reducible refine (icompare_any k [] _ (Nat.le_trans hk (by decide)) (by decide)).mono ?_); rintro e w0 ⟨rfl, hb⟩)
  rw [← HC.out]
  have X0 := X0.below hb
  have X1 := X1.below hb
  have X2 := X2.below hb
  have hbW := bto hbW hb
  go_wp2_with fail
  have hbc := bdr w0
  have x0 := X0.below hbc; have x1 := X1.below hbc; have x2 := X2.below hbc; have q0 := x0.c0; have q1 := x0.c1; have q2 := x1.c0; have q3 := x1.c1; have c0 := x2.c0; have c1 := x2.c1; have f0 := x2.f0; have f1 := x2.f1
  go_region_held3 (fun w' => w'.cell? ⟨b0, 0, none⟩ = some (.string ⟨l.toArray⟩) ∧ w'.cell? ⟨b0, 1, none⟩ = some (.string ⟨l'.toArray⟩) ∧ w'.cell? ⟨b1, 0, none⟩ = some (.string ⟨k.toArray⟩) ∧ w'.cell? ⟨b1, 1, none⟩ = some (.string ⟨k'.toArray⟩))
    (first | go_keep | (dsimp only; exact ⟨q0, q1, q2, q3⟩))
    (first
      | (go_at_call 61; (with_reducible refine Calls.mono (operations_any _) ?_); rintro e w1 ⟨rfl, hm1, hc1, hb1⟩; have hm1 : w0.heap.size + 1 < w1.heap.size := hm1; have hc1 : w1.cell? ⟨w0.heap.size + 1, 0, none⟩ = some (.func (.func 90) #[] #[]) := hc1; have hbc := bto hbc hb1; have x0 := X0.below hbc; have x1 := X1.below hbc; have x2 := X2.below hbc; have q0 := x0.c0; have q1 := x0.c1; have q2 := x1.c0; have q3 := x1.c1; have c0 := x2.c0; have c1 := x2.c1; have f0 := x2.f0; have f1 := x2.f1)
      | (go_at_call 60; (with_reducible refine Calls.mono (HA.out _ _ (by exact (hG.below hbW).below hbc) (by exact hm1) (by exact hc1)) ?_); rintro e w2 ⟨rfl, hb2⟩; have hbc := bto hbc hb2; have x0 := X0.below hbc; have x1 := X1.below hbc; have x2 := X2.below hbc; have q0 := x0.c0; have q1 := x0.c1; have q2 := x1.c0; have q3 := x1.c1; have c0 := x2.c0; have c1 := x2.c1; have f0 := x2.f0; have f1 := x2.f1))
  go_wp2
  have hy := x2.set (.string ⟨(fN q).toArray⟩) (.string ⟨(fD q).toArray⟩)
  have z0 := hy.c0
  have z1 := hy.c1
  refine bodyPost_ret (v := .tuple #[(Value.agg #[Value.string ⟨List.toArray (fN q)⟩, Value.string ⟨List.toArray (fD q)⟩]), .int .i64 0]) (by simp [results, Tryz.results31, go_sem, z0, z1]) rfl ?_
  exact ⟨rfl, below_set2 (bto hbW hbc) hwb _ _⟩
end Go.Proofs.YtjhafnnfkaejgaaGreatDoor
