/- Bc: frace fracf fracg frach fraci qlaw -/
import Derived.Test.YtgnppdkeiihlfaaGreatDoorMBb
import Derived.Laws.EntriesVeiled
import Derived.Laws.Concat
/- Package fraction: operations, apply. Printed by wip/tools/gen_apply.py. -/
namespace Go.Proofs.YtgnppdkeiihlfaaGreatDoor
open Go.RowKit Num

set_option maxHeartbeats 1000000 in
set_option maxRecDepth 100000 in
theorem operations_any (w : World) :
    Calls Tryz.prog 101 #[] w fun e w' => e = .returned (.agg #[.func (.func 164) #[] #[.pointer (some ⟨w.heap.size + 1, 0, none⟩)], .func (.func 166) #[] #[.pointer (some ⟨w.heap.size + 1, 0, none⟩)], .func (.func 168) #[] #[.pointer (some ⟨w.heap.size + 1, 0, none⟩)], .func (.func 169) #[] #[.pointer (some ⟨w.heap.size + 1, 0, none⟩)]]) ∧
      w.heap.size + 1 < w'.heap.size ∧ w'.cell? ⟨w.heap.size + 1, 0, none⟩ = some (.func (.func 163) #[] #[]) ∧ Below w.heap.size w w' := by
  go_enter Tryz.func101, Tryz.ntmps101
  go_wp2_with fail
  refine bodyPost_ret (v := .agg #[.func (.func 164) #[] #[.pointer (some ⟨w.heap.size + 1, 0, none⟩)], .func (.func 166) #[] #[.pointer (some ⟨w.heap.size + 1, 0, none⟩)], .func (.func 168) #[] #[.pointer (some ⟨w.heap.size + 1, 0, none⟩)], .func (.func 169) #[] #[.pointer (some ⟨w.heap.size + 1, 0, none⟩)]]) (by simp [results, Tryz.results101, go_sem]) rfl ?_
  exact ⟨rfl, by simp, by simp [go_sem], bto (below_alloc _ _) (below_alloc _ _)⟩

set_option maxHeartbeats 1000000 in
set_option maxRecDepth 100000 in
theorem apply3_any (l l' k k' : List UInt8) (m : Nat) (w : World) (hl : l.length ≤ 100000) (hl' : l'.length ≤ 100000) (hk : k.length ≤ 100000) (hk' : k'.length ≤ 100000) (hG : Glob w) (hm : m < w.heap.size) (hc : w.cell? ⟨m, 0, none⟩ = some (.func (.func 163) #[] #[])) :
    Calls Tryz.prog 100 #[.func (.func 168) #[] #[.pointer (some ⟨m, 0, none⟩)], (Value.agg #[Value.string ⟨List.toArray l⟩, Value.string ⟨List.toArray l'⟩]), (Value.agg #[Value.string ⟨List.toArray k⟩, Value.string ⟨List.toArray k'⟩])] w fun e w' => e = .returned (Value.agg #[Value.string ⟨List.toArray (fN (fv l l' * fv k k'))⟩, Value.string ⟨List.toArray (fD (fv l l' * fv k k'))⟩]) ∧ Below w.heap.size w w' := by
  have hpl := pd_len hl' (show 1 ≤ 100000 by decide)
  have hpk := pd_len hk' (show 1 ≤ 100000 by decide)
  have hv : Rat.divInt ((val l * val k)) ((val (pd l') * val (pd k'))) = fv l l' * fv k k' := by
    unfold fv; rw [Rat.divInt_mul_divInt]; rw [val_pd, val_pd]
  have hnl : (canon ((val l * val k))).length ≤ 1000000 := by
    have hl' := hpl; have hk' := hpk
    exact Nat.le_trans (canon_mul_len _ _) (by omega)
  have hdl : (canon ((val (pd l') * val (pd k')))).length ≤ 1000000 := Nat.le_trans (canon_mul_len _ _) (by omega)
  have hne : val (canon ((val (pd l') * val (pd k')))) ≠ 0 := by rw [val_canon, val_pd, val_pd]; exact Int.mul_ne_zero (den1_ne _) (den1_ne _)
  have hmd : ∀ w : World, Glob w → _ := fun w hG => made_any (canon ((val l * val k))) (canon ((val (pd l') * val (pd k')))) w hnl hdl hG hne
  simp only [val_canon, hv] at hmd
  have hop : ∀ w : World, Glob w → _ → _ → _ := fun w hG hm hc => op3_any l (pd l') k (pd k') m w (Nat.le_trans hl (by decide)) (Nat.le_trans hpl (by decide)) (Nat.le_trans hk (by decide)) (Nat.le_trans hpk (by decide)) hG hm hc
  obtain ⟨q, hq⟩ : ∃ q, q = fv l l' * fv k k' := ⟨_, rfl⟩
  obtain ⟨N, hN⟩ : ∃ N, N = canon ((val l * val k)) := ⟨_, rfl⟩
  obtain ⟨D, hD⟩ : ∃ D, D = canon ((val (pd l') * val (pd k'))) := ⟨_, rfl⟩
  simp only [← hq, ← hN, ← hD] at hmd hop ⊢
  have HM := Lib.hid hmd
  have HO := Lib.hid hop
  have HC := Lib.hid hc
  clear hq hN hD hmd hop hv hnl hdl hne hc
  go_enter Tryz.func100, Tryz.ntmps100
  go_wp2_with fail
  ((with_reducible refine (parts_any l l' _ (Nat.le_trans hl' (by decide))).mono ?_); rintro e w1 ⟨rfl, hb1⟩)
  have hx0 := ((FBox.new (w.alloc (.cells #[.string ⟨l.toArray⟩, .string ⟨l'.toArray⟩] 25)) (.string ⟨k.toArray⟩) (.string ⟨k'.toArray⟩) 25).below (below_alloc _ (.cells #[.string ⟨#[]⟩, .string ⟨#[]⟩] 25))).below hb1
  have hx := (FBox.new ((w.alloc (.cells #[.string ⟨l.toArray⟩, .string ⟨l'.toArray⟩] 25)).alloc (.cells #[.string ⟨k.toArray⟩, .string ⟨k'.toArray⟩] 25)) (.string ⟨#[]⟩) (.string ⟨#[]⟩) 25).below hb1
  have hb1 := bto (bto (bto (below_alloc w (.cells #[.string ⟨l.toArray⟩, .string ⟨l'.toArray⟩] 25)) (below_alloc _ (.cells #[.string ⟨k.toArray⟩, .string ⟨k'.toArray⟩] 25))) (below_alloc _ (.cells #[.string ⟨#[]⟩, .string ⟨#[]⟩] 25))) hb1
  rw [World.size_alloc] at hx0
  rw [World.size_alloc, World.size_alloc] at hx
  have e0 := hx0.c0
  have e1 := hx0.c1
  go_wp2_with fail
  ((with_reducible refine (parts_any k k' _ (Nat.le_trans hk' (by decide))).mono ?_); rintro e w2 ⟨rfl, hb2⟩)
  have hx := hx.below hb2
  have hb2 := bto hb1 hb2
  clear e0 e1 hx0
  go_wp2_with fail
  ((with_reducible refine (HO.out _ (by exact hG.below hb2) (by exact Nat.lt_of_lt_of_le hm hb2.size) (by exact (hb2.cell (p := ⟨m, 0, none⟩) hm).trans HC.out)).mono ?_); rintro e w3 ⟨rfl, hb3⟩)
  have hx := hx.below hb3
  have hb3 := bto hb2 hb3
  go_wp2_with fail
  ((with_reducible refine (HM.out _ (by exact hG.below hb3)).mono ?_); rintro e w4 ⟨rfl, hb4⟩)
  have hx := hx.below hb4
  have hb4 := bto hb3 hb4
  have c0 := hx.c0
  have c1 := hx.c1
  have f0 := hx.f0
  have f1 := hx.f1
  go_wp2_with fail
  have hy := hx.set (.string ⟨(fN q).toArray⟩) (.string ⟨(fD q).toArray⟩)
  have d0 := hy.c0
  have d1 := hy.c1
  refine bodyPost_ret (v := (Value.agg #[Value.string ⟨List.toArray (fN q)⟩, Value.string ⟨List.toArray (fD q)⟩])) (by simp [results, Tryz.results100, go_sem, d0, d1]) rfl ?_
  exact ⟨rfl, below_set2 hb4 (by omega) _ _⟩

end Go.Proofs.YtgnppdkeiihlfaaGreatDoor
/- Package fraction: Add, Sub, Mul, Quo. Printed by wip/tools/gen_arith.py. -/
namespace Go.Proofs.YtgnppdkeiihlfaaGreatDoor
open Go.RowKit Num

set_option maxHeartbeats 2000000 in
set_option maxRecDepth 100000 in
theorem Mul_any (l l' k k' : List UInt8) (w : World) (hl : l.length ≤ 100000) (hl' : l'.length ≤ 100000) (hk : k.length ≤ 100000) (hk' : k'.length ≤ 100000) (hG : Glob w) :
    Calls Tryz.prog 39 #[(Value.agg #[Value.string ⟨List.toArray l⟩, Value.string ⟨List.toArray l'⟩]), (Value.agg #[Value.string ⟨List.toArray k⟩, Value.string ⟨List.toArray k'⟩])] w fun e w' => e = .returned ((Value.agg #[Value.string ⟨List.toArray (fN (fv l l' * fv k k'))⟩, Value.string ⟨List.toArray (fD (fv l l' * fv k k'))⟩])) ∧ Below w.heap.size w w' := by
  have hap : ∀ (m : Nat) (w : World), Glob w → _ → _ → _ := fun m w hG hm hc => apply3_any l l' k k' m w hl hl' hk hk' hG hm hc
  obtain ⟨q, hq⟩ : ∃ q, q = fv l l' * fv k k' := ⟨_, rfl⟩
  simp only [← hq] at hap ⊢
  have HA := Lib.hid hap
  clear hq hap
  have hix : ∀ (p1 p2 p3 p4 : Value) (w : World), (Instr.index 116 (.agg #[.func (.func 164) #[] #[p1], .func (.func 166) #[] #[p2], .func (.func 168) #[] #[p3], .func (.func 169) #[] #[p4]]) (.int .i64 2)).run Tryz.prog w = .ok (.func (.func 168) #[] #[p3]) w := fun _ _ _ _ _ => by kernel_rfl
  have X0 := ((FBox.new w (.string ⟨l.toArray⟩) (.string ⟨l'.toArray⟩) 25).below (below_alloc _ (.cells #[.string ⟨k.toArray⟩, .string ⟨k'.toArray⟩] 25))).below (below_alloc _ (.cells #[.string ⟨#[]⟩, .string ⟨#[]⟩] 25))
  have X1 := (FBox.new (w.alloc (.cells #[.string ⟨l.toArray⟩, .string ⟨l'.toArray⟩] 25)) (.string ⟨k.toArray⟩) (.string ⟨k'.toArray⟩) 25).below (below_alloc _ (.cells #[.string ⟨#[]⟩, .string ⟨#[]⟩] 25))
  have X2 := FBox.new ((w.alloc (.cells #[.string ⟨l.toArray⟩, .string ⟨l'.toArray⟩] 25)).alloc (.cells #[.string ⟨k.toArray⟩, .string ⟨k'.toArray⟩] 25)) (.string ⟨#[]⟩) (.string ⟨#[]⟩) 25
  have hbW := bto (below_alloc w (.cells #[.string ⟨l.toArray⟩, .string ⟨l'.toArray⟩] 25)) (bto (below_alloc _ (.cells #[.string ⟨k.toArray⟩, .string ⟨k'.toArray⟩] 25)) (below_alloc _ (.cells #[.string ⟨#[]⟩, .string ⟨#[]⟩] 25)))
  rw [World.size_alloc] at X1
  rw [World.size_alloc, World.size_alloc] at X2
  obtain ⟨W, hW⟩ : ∃ W, W = ((w.alloc (.cells #[.string ⟨l.toArray⟩, .string ⟨l'.toArray⟩] 25)).alloc (.cells #[.string ⟨k.toArray⟩, .string ⟨k'.toArray⟩] 25)).alloc (.cells #[.string ⟨#[]⟩, .string ⟨#[]⟩] 25) := ⟨_, rfl⟩
  obtain ⟨b0, hb0⟩ : ∃ b, b = w.heap.size := ⟨_, rfl⟩
  obtain ⟨b1, hb1⟩ : ∃ b, b = w.heap.size + 1 := ⟨_, rfl⟩
  obtain ⟨b2, hb2⟩ : ∃ b, b = w.heap.size + 1 + 1 := ⟨_, rfl⟩
  rw [← hW] at X0 X1 X2 hbW
  rw [← hb0] at X0
  rw [← hb1] at X1
  rw [← hb2] at X2
  have d02 : ¬ b0 = b2 := by omega
  have d12 : ¬ b1 = b2 := by omega
  have d20 : ¬ b2 = b0 := by omega
  have d21 : ¬ b2 = b1 := by omega
  have hwb : w.heap.size ≤ b2 := by omega
  have HW := Lib.hid (And.intro hW (And.intro hb0 (And.intro hb1 hb2)))
  clear hW hb0 hb1 hb2
  go_enter Tryz.func39, Tryz.ntmps39
  go_wp2_with fail
  rw [← HW.out.1, ← HW.out.2.2.2, ← HW.out.2.2.1, ← HW.out.2.1]
  have hbc := bdr W
  have x0 := X0.below hbc; have x1 := X1.below hbc; have x2 := X2.below hbc; have q0 := x0.c0; have q1 := x0.c1; have q2 := x1.c0; have q3 := x1.c1; have c0 := x2.c0; have c1 := x2.c1; have f0 := x2.f0; have f1 := x2.f1
  go_region_held3 (fun w' => w'.cell? ⟨b0, 0, none⟩ = some (.string ⟨l.toArray⟩) ∧ w'.cell? ⟨b0, 1, none⟩ = some (.string ⟨l'.toArray⟩) ∧ w'.cell? ⟨b1, 0, none⟩ = some (.string ⟨k.toArray⟩) ∧ w'.cell? ⟨b1, 1, none⟩ = some (.string ⟨k'.toArray⟩))
    (first | go_keep | (dsimp only; exact ⟨q0, q1, q2, q3⟩))
    (first
      | (go_at_call 101; (with_reducible refine Calls.mono (operations_any _) ?_); rintro e w1 ⟨rfl, hm1, hc1, hb1⟩; have hm1 : W.heap.size + 1 < w1.heap.size := hm1; have hc1 : w1.cell? ⟨W.heap.size + 1, 0, none⟩ = some (.func (.func 163) #[] #[]) := hc1; have hbc := bto hbc hb1; have x0 := X0.below hbc; have x1 := X1.below hbc; have x2 := X2.below hbc; have q0 := x0.c0; have q1 := x0.c1; have q2 := x1.c0; have q3 := x1.c1; have c0 := x2.c0; have c1 := x2.c1; have f0 := x2.f0; have f1 := x2.f1)
      | (go_at_call 100; (with_reducible refine Calls.mono (HA.out _ _ (by exact (hG.below hbW).below hbc) (by exact hm1) (by exact hc1)) ?_); rintro e w2 ⟨rfl, hb2⟩; have hbc := bto hbc hb2; have x0 := X0.below hbc; have x1 := X1.below hbc; have x2 := X2.below hbc; have q0 := x0.c0; have q1 := x0.c1; have q2 := x1.c0; have q3 := x1.c1; have c0 := x2.c0; have c1 := x2.c1; have f0 := x2.f0; have f1 := x2.f1))
  go_wp2
  have hy := x2.set (.string ⟨(fN q).toArray⟩) (.string ⟨(fD q).toArray⟩)
  have z0 := hy.c0
  have z1 := hy.c1
  refine bodyPost_ret (v := (Value.agg #[Value.string ⟨List.toArray (fN q)⟩, Value.string ⟨List.toArray (fD q)⟩])) (by simp [results, Tryz.results39, go_sem, z0, z1]) rfl ?_
  exact ⟨rfl, below_set2 (bto hbW hbc) hwb _ _⟩

end Go.Proofs.YtgnppdkeiihlfaaGreatDoor
/- Package fraction: Quo by zero, Compare, Floor, Check. -/
namespace Go.Proofs.YtgnppdkeiihlfaaGreatDoor
open Go.RowKit Num

/-- what Compare returns -/
def cmpQ (p q : Rat) : Int := cmpZ (p - q).num 0
end Go.Proofs.YtgnppdkeiihlfaaGreatDoor
/- Package fraction: Print, Power. -/
namespace Go.Proofs.YtgnppdkeiihlfaaGreatDoor
open Go.RowKit Num

end Go.Proofs.YtgnppdkeiihlfaaGreatDoor
/- Package fraction: Power. -/
namespace Go.Proofs.YtgnppdkeiihlfaaGreatDoor
open Go.RowKit Num

end Go.Proofs.YtgnppdkeiihlfaaGreatDoor
/- Plain: the order and the floor of rational numbers, as the code reckons them. -/
namespace Go.Proofs.YtgnppdkeiihlfaaGreatDoor
open Num

theorem cmpQ_neg (p q : Rat) : cmpQ p q < 0 ↔ p < q := by
  have h : (p - q).num < 0 ↔ p < q := by
    rw [← Rat.not_le, Rat.le_iff_sub_nonneg, ← Rat.num_nonneg]; omega
  rw [← h]; unfold cmpQ cmpZ; split <;> (try split) <;> omega
theorem cmpQ_bound (p q : Rat) : cmpQ p q = -1 ∨ cmpQ p q = 0 ∨ cmpQ p q = 1 := by
  unfold cmpQ cmpZ; split <;> (try split) <;> omega
theorem cmpQ_swap (p q : Rat) : cmpQ p q = -cmpQ q p := by
  unfold cmpQ
  have h : (p - q).num = -(q - p).num := by rw [← Rat.neg_num, Rat.neg_sub]
  rw [h]; unfold cmpZ; split <;> split <;> (try split) <;> (try split) <;> omega
end Go.Proofs.YtgnppdkeiihlfaaGreatDoor
