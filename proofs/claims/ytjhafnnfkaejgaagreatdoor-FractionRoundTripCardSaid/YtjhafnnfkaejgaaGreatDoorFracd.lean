/- Package fraction: the operations, apply. Printed by wip/tools/gen_ops.py. -/
import Derived.Test.YtjhafnnfkaejgaaGreatDoorFracc
namespace Go.Proofs.YtjhafnnfkaejgaaGreatDoor
open Go.RowKit Num

theorem canon_mul_len (a b : List UInt8) : (canon (val a * val b)).length ≤ a.length + b.length + 1 :=
  canon_len_le _ _ (by rw [Int.natAbs_mul]; exact mul_lt10 (val_lt a) (val_lt b))

set_option maxHeartbeats 1000000 in
set_option maxRecDepth 100000 in
theorem op1_any (a b c d : List UInt8) (m : Nat) (w : World) (ha : a.length ≤ 1000000) (hb : b.length ≤ 1000000) (hc' : c.length ≤ 1000000) (hd : d.length ≤ 1000000) (hG : Glob w) (hm : m < w.heap.size) (hc : w.cell? ⟨m, 0, none⟩ = some (.func (.func 90) #[] #[])) :
    Calls Tryz.prog 91 #[.string ⟨a.toArray⟩, .string ⟨b.toArray⟩, .string ⟨c.toArray⟩, .string ⟨d.toArray⟩, .pointer (some ⟨m, 0, none⟩)] w fun e w' => e = .returned (.tuple #[.string ⟨(canon (val a * val d + val c * val b)).toArray⟩, .string ⟨(canon (val b * val d)).toArray⟩]) ∧ Below w.heap.size w w' := by
  have h1 : (canon (val a * val d)).length ≤ 100000000 := Nat.le_trans (canon_mul_len a d) (by omega)
  have h2 : (canon (val c * val b)).length ≤ 100000000 := Nat.le_trans (canon_mul_len c b) (by omega)
  have ha := Nat.le_trans ha (show 1000000 ≤ 100000000 by decide)
  have hb := Nat.le_trans hb (show 1000000 ≤ 100000000 by decide)
  have hc' := Nat.le_trans hc' (show 1000000 ≤ 100000000 by decide)
  have hd := Nat.le_trans hd (show 1000000 ≤ 100000000 by decide)
  have hbc := bdr w
  have q := (hbc.cell (p := ⟨m, 0, none⟩) hm).trans hc
  go_enter Tryz.func91, Tryz.ntmps91
  go_wp2_with fail
  go_region_held3 (fun w' => w'.cell? ⟨m, 0, none⟩ = some (.func (.func 90) #[] #[]))
    (first | go_keep | (dsimp only; exact q))
    (first
      | (go_at_call 90; with_reducible refine Calls.mono (mul_any _ _ _ (by assumption) (by assumption) (by exact hG.below hbc)) ?_; rintro e w1 ⟨rfl, hb1⟩; have hbc := bto hbc hb1; have q := (hbc.cell (p := ⟨m, 0, none⟩) hm).trans hc)
      | (go_at_call 39; with_reducible refine Calls.mono (iadd_any _ _ _ (by assumption) (by assumption) (by exact hG.below hbc)) ?_; rintro e w1 ⟨rfl, hb1⟩; rw [val_canon, val_canon]; have hbc := bto hbc hb1; have q := (hbc.cell (p := ⟨m, 0, none⟩) hm).trans hc))
  go_wp2
  go_ret2
  exact ⟨rfl, hbc⟩

set_option maxHeartbeats 1000000 in
set_option maxRecDepth 100000 in
theorem op2_any (a b c d : List UInt8) (m : Nat) (w : World) (ha : a.length ≤ 1000000) (hb : b.length ≤ 1000000) (hc' : c.length ≤ 1000000) (hd : d.length ≤ 1000000) (hG : Glob w) (hm : m < w.heap.size) (hc : w.cell? ⟨m, 0, none⟩ = some (.func (.func 90) #[] #[])) :
    Calls Tryz.prog 92 #[.string ⟨a.toArray⟩, .string ⟨b.toArray⟩, .string ⟨c.toArray⟩, .string ⟨d.toArray⟩, .pointer (some ⟨m, 0, none⟩)] w fun e w' => e = .returned (.tuple #[.string ⟨(canon (val a * val d - val c * val b)).toArray⟩, .string ⟨(canon (val b * val d)).toArray⟩]) ∧ Below w.heap.size w w' := by
  have h1 : (canon (val a * val d)).length ≤ 100000000 := Nat.le_trans (canon_mul_len a d) (by omega)
  have h2 : (canon (val c * val b)).length ≤ 100000000 := Nat.le_trans (canon_mul_len c b) (by omega)
  have ha := Nat.le_trans ha (show 1000000 ≤ 100000000 by decide)
  have hb := Nat.le_trans hb (show 1000000 ≤ 100000000 by decide)
  have hc' := Nat.le_trans hc' (show 1000000 ≤ 100000000 by decide)
  have hd := Nat.le_trans hd (show 1000000 ≤ 100000000 by decide)
  have hbc := bdr w
  have q := (hbc.cell (p := ⟨m, 0, none⟩) hm).trans hc
  go_enter Tryz.func92, Tryz.ntmps92
  go_wp2_with fail
  go_region_held3 (fun w' => w'.cell? ⟨m, 0, none⟩ = some (.func (.func 90) #[] #[]))
    (first | go_keep | (dsimp only; exact q))
    (first
      | (go_at_call 90; with_reducible refine Calls.mono (mul_any _ _ _ (by assumption) (by assumption) (by exact hG.below hbc)) ?_; rintro e w1 ⟨rfl, hb1⟩; have hbc := bto hbc hb1; have q := (hbc.cell (p := ⟨m, 0, none⟩) hm).trans hc)
      | (go_at_call 93; with_reducible refine Calls.mono (isub_any _ _ _ (by assumption) (by assumption) (by exact hG.below hbc)) ?_; rintro e w1 ⟨rfl, hb1⟩; rw [val_canon, val_canon]; have hbc := bto hbc hb1; have q := (hbc.cell (p := ⟨m, 0, none⟩) hm).trans hc))
  go_wp2
  go_ret2
  exact ⟨rfl, hbc⟩

set_option maxHeartbeats 1000000 in
set_option maxRecDepth 100000 in
theorem op3_any (a b c d : List UInt8) (m : Nat) (w : World) (ha : a.length ≤ 1000000) (hb : b.length ≤ 1000000) (hc' : c.length ≤ 1000000) (hd : d.length ≤ 1000000) (hG : Glob w) (hm : m < w.heap.size) (hc : w.cell? ⟨m, 0, none⟩ = some (.func (.func 90) #[] #[])) :
    Calls Tryz.prog 94 #[.string ⟨a.toArray⟩, .string ⟨b.toArray⟩, .string ⟨c.toArray⟩, .string ⟨d.toArray⟩, .pointer (some ⟨m, 0, none⟩)] w fun e w' => e = .returned (.tuple #[.string ⟨(canon (val a * val c)).toArray⟩, .string ⟨(canon (val b * val d)).toArray⟩]) ∧ Below w.heap.size w w' := by
  have ha := Nat.le_trans ha (show 1000000 ≤ 100000000 by decide)
  have hb := Nat.le_trans hb (show 1000000 ≤ 100000000 by decide)
  have hc' := Nat.le_trans hc' (show 1000000 ≤ 100000000 by decide)
  have hd := Nat.le_trans hd (show 1000000 ≤ 100000000 by decide)
  have hbc := bdr w
  have q := (hbc.cell (p := ⟨m, 0, none⟩) hm).trans hc
  go_enter Tryz.func94, Tryz.ntmps94
  go_wp2_with fail
  go_region_held3 (fun w' => w'.cell? ⟨m, 0, none⟩ = some (.func (.func 90) #[] #[]))
    (first | go_keep | (dsimp only; exact q))
    (first
      | (go_at_call 90; with_reducible refine Calls.mono (mul_any _ _ _ (by assumption) (by assumption) (by exact hG.below hbc)) ?_; rintro e w1 ⟨rfl, hb1⟩; have hbc := bto hbc hb1; have q := (hbc.cell (p := ⟨m, 0, none⟩) hm).trans hc))
  go_wp2
  go_ret2
  exact ⟨rfl, hbc⟩

set_option maxHeartbeats 1000000 in
set_option maxRecDepth 100000 in
theorem op4_any (a b c d : List UInt8) (m : Nat) (w : World) (ha : a.length ≤ 1000000) (hb : b.length ≤ 1000000) (hc' : c.length ≤ 1000000) (hd : d.length ≤ 1000000) (hG : Glob w) (hm : m < w.heap.size) (hc : w.cell? ⟨m, 0, none⟩ = some (.func (.func 90) #[] #[])) :
    Calls Tryz.prog 95 #[.string ⟨a.toArray⟩, .string ⟨b.toArray⟩, .string ⟨c.toArray⟩, .string ⟨d.toArray⟩, .pointer (some ⟨m, 0, none⟩)] w fun e w' => e = .returned (.tuple #[.string ⟨(canon (val a * val d)).toArray⟩, .string ⟨(canon (val b * val c)).toArray⟩]) ∧ Below w.heap.size w w' := by
  have ha := Nat.le_trans ha (show 1000000 ≤ 100000000 by decide)
  have hb := Nat.le_trans hb (show 1000000 ≤ 100000000 by decide)
  have hc' := Nat.le_trans hc' (show 1000000 ≤ 100000000 by decide)
  have hd := Nat.le_trans hd (show 1000000 ≤ 100000000 by decide)
  have hbc := bdr w
  have q := (hbc.cell (p := ⟨m, 0, none⟩) hm).trans hc
  go_enter Tryz.func95, Tryz.ntmps95
  go_wp2_with fail
  go_region_held3 (fun w' => w'.cell? ⟨m, 0, none⟩ = some (.func (.func 90) #[] #[]))
    (first | go_keep | (dsimp only; exact q))
    (first
      | (go_at_call 90; with_reducible refine Calls.mono (mul_any _ _ _ (by assumption) (by assumption) (by exact hG.below hbc)) ?_; rintro e w1 ⟨rfl, hb1⟩; have hbc := bto hbc hb1; have q := (hbc.cell (p := ⟨m, 0, none⟩) hm).trans hc))
  go_wp2
  go_ret2
  exact ⟨rfl, hbc⟩
end Go.Proofs.YtjhafnnfkaejgaaGreatDoor
