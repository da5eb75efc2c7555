/- Package integer: Neg, add, Add, Sub. -/
import Derived.Test.YtjhafnnfkaejgaaGreatDoorIntb
namespace Go.Proofs.YtjhafnnfkaejgaaGreatDoor
open Go.RowKit Num

set_option maxHeartbeats 1000000 in
set_option maxRecDepth 100000 in
theorem neg_any (l : List UInt8) (w : World) (hl : l.length ≤ 100000000) (hG : Glob w) :
    Calls Tryz.prog 63 #[.string ⟨l.toArray⟩] w fun e w' => e = .returned (.string ⟨(canon (-val l)).toArray⟩) ∧ Below w.heap.size w w' := by
  rw [← sgn_not]
  go_enter Tryz.func63, Tryz.ntmps63
  go_wp2_with fail
  ((with_reducible refine (read_var l _ hl).mono ?_); rintro e w1 ⟨A, n, c, rfl, hn, ho1, hb1⟩)
  go_wp2_with fail
  have hbl := below_alloc w1 (.cells #[.bool !negB l, .slice A n c] 70)
  ((with_reducible refine (text_mag (!negB l) A n c _ _ _ (by exact own_below ho1 hbl) (by exact (hG.below hb1).below hbl) (by omega)).mono ?_); rintro e w2 ⟨rfl, hb2⟩)
  go_wp2_with fail
  go_ret
  exact ⟨rfl, bto hb1 (bto hbl hb2)⟩

/-- what add returns: a number of the value z -/
def Num2 (w : World) (z : Int) (b : Nat) (e : Ending) (w' : World) : Prop := ∃ (neg : Bool) (m : Nat) (A : Option Addr) (n c : Nat), e = .returned (.agg #[.bool neg, .slice A n c]) ∧ sgn neg m = z ∧ n ≤ b ∧ w'.ownsRow 0 95 1 (.slice A n c) n (U (grp m)) ∧ Below w.heap.size w w'

theorem cell_far2 {w : World} {p1 p2 q : Addr} {v1 v2 : Value} (h1 : q.block ≠ p1.block) (h2 : q.block ≠ p2.block) : ((w.setCell p1 v1).setCell p2 v2).cell? q = w.cell? q := by
  rw [World.cell?_setCell_other _ _ _ _ (fun e => h2 (by rw [e])), World.cell?_setCell_other _ _ _ _ (fun e => h1 (by rw [e]))]

theorem own_far2 {w : World} {base n : Nat} {e : TypeId} {v : Value} {xs : List Value} {b : Nat} (h : w.ownsRow base e 1 v n xs) (hb : v.ownBlock ≠ some b) (u0 u1 : Value) : ((w.setCell ⟨b, 0, none⟩ u0).setCell ⟨b, 1, none⟩ u1).ownsRow base e 1 v n xs :=
  own_far (p := ⟨b, 1, none⟩) (own_far (p := ⟨b, 0, none⟩) h hb u0) hb u1
theorem own_ge_ne {w : World} {base n b : Nat} {e : TypeId} {v : Value} {xs : List Value} (h : w.ownsRow base e 1 v n xs) (hb : b < base) : v.ownBlock ≠ some b := fun e => by
  have := own_block_ge h b e; omega
theorem below_set2 {w w3 : World} {b : Nat} (h : Below w.heap.size w w3) (hb : w.heap.size ≤ b) (u0 u1 : Value) : Below w.heap.size w ((w3.setCell ⟨b, 0, none⟩ u0).setCell ⟨b, 1, none⟩ u1) :=
  (h.setCell (p := ⟨b, 0, none⟩) hb u0).setCell (p := ⟨b, 1, none⟩) hb u1

set_option maxHeartbeats 2000000 in
set_option maxRecDepth 100000 in
theorem add_same (ng : Bool) (A A' : Option Addr) (n c n' c' : Nat) (x y : Nat) (w : World) (base base' : Nat) (h : w.ownsRow base 95 1 (.slice A n c) n (U (grp x))) (h' : w.ownsRow base' 95 1 (.slice A' n' c') n' (U (grp y)))
    (hn : n ≤ 100000000) (hn' : n' ≤ 100000000) :
    Calls Tryz.prog 67 #[.agg #[.bool ng, .slice A n c], .agg #[.bool ng, .slice A' n' c']] w (Num2 w (sgn ng (x + y)) 300000000) := by
  obtain ⟨W, hW⟩ : ∃ W, W = ((w.alloc (.cells #[.bool ng, .slice A n c] 70)).alloc (.cells #[.bool ng, .slice A' n' c'] 70)).alloc (.cells #[.bool false, .slice none 0 0] 70) := ⟨_, rfl⟩
  obtain ⟨b0, hb0⟩ : ∃ b, b = w.heap.size := ⟨_, rfl⟩
  obtain ⟨b1, hb1⟩ : ∃ b, b = b0 + 1 := ⟨_, rfl⟩
  obtain ⟨b2, hb2⟩ : ∃ b, b = b1 + 1 := ⟨_, rfl⟩
  have k0 : W.cell? ⟨b0, 0, none⟩ = some (.bool ng) := by rw [hW, hb0]; simp [go_sem]
  have k1 : W.cell? ⟨b0, 1, none⟩ = some (.slice A n c) := by rw [hW, hb0]; simp [go_sem]
  have k2 : W.cell? ⟨b1, 0, none⟩ = some (.bool ng) := by rw [hW, hb1, hb0]; simp [go_sem]
  have k3 : W.cell? ⟨b1, 1, none⟩ = some (.slice A' n' c') := by rw [hW, hb1, hb0]; simp [go_sem]
  have k4 : W.cell? ⟨b2, 0, none⟩ = some (.bool false) := by rw [hW, hb2, hb1, hb0]; simp [go_sem]
  have k5 : W.cell? ⟨b2, 1, none⟩ = some (.slice none 0 0) := by rw [hW, hb2, hb1, hb0]; simp [go_sem]
  have f0 : W.frozen? ⟨b0, 0, none⟩ = false := by rw [hW, hb0]; simp [go_sem]
  have f1 : W.frozen? ⟨b0, 1, none⟩ = false := by rw [hW, hb0]; simp [go_sem]
  have f2 : W.frozen? ⟨b1, 0, none⟩ = false := by rw [hW, hb1, hb0]; simp [go_sem]
  have f3 : W.frozen? ⟨b1, 1, none⟩ = false := by rw [hW, hb1, hb0]; simp [go_sem]
  have f4 : W.frozen? ⟨b2, 0, none⟩ = false := by rw [hW, hb2, hb1, hb0]; simp [go_sem]
  have f5 : W.frozen? ⟨b2, 1, none⟩ = false := by rw [hW, hb2, hb1, hb0]; simp [go_sem]
  have hbW : Below w.heap.size w W := by rw [hW]; exact bto (below_alloc _ _) (bto (below_alloc _ _) (below_alloc _ _))
  have l2 : b2 < W.heap.size := by rw [hW, hb2, hb1, hb0]; simp
  have l1 : b1 < W.heap.size := by omega
  have l0 : b0 < W.heap.size := by omega
  have w0 : w.heap.size ≤ b0 := by omega
  have wz2 : w.heap.size ≤ b2 := by omega
  have d01 : ¬ b0 = b1 := by omega
  have d02 : ¬ b0 = b2 := by omega
  have d12 : ¬ b1 = b2 := by omega
  have d10 : ¬ b1 = b0 := by omega
  have d20 : ¬ b2 = b0 := by omega
  have d21 : ¬ b2 = b1 := by omega
  have HO1 := Lib.hid (own_below h hbW)
  have HO2 := Lib.hid (own_below h' hbW)
  have HW := Lib.hid hW
  have HB : Hid (b0 = w.heap.size ∧ b1 = w.heap.size + 1 ∧ b2 = w.heap.size + 1 + 1) := ⟨hb0, by omega, by omega⟩
  have HLX := Lib.hid (own_len h)
  have HLY := Lib.hid (own_len h')
  clear hW h h' hb0 hb1 hb2
  go_enter Tryz.func67, Tryz.ntmps67
  go_wp2_with fail
  rw [← HW.out, ← HB.out.2.2, ← HB.out.2.1, ← HB.out.1]
  go_wp2_with fail
  go_region_held3 (fun w' => w'.cell? ⟨b0, 0, none⟩ = some (.bool ng) ∧ w'.cell? ⟨b0, 1, none⟩ = some (.slice A n c) ∧ w'.cell? ⟨b1, 1, none⟩ = some (.slice A' n' c'))
    (first
      | go_keep
      | (dsimp only; exact ⟨q0, q1, q3⟩))
    (first
      | (go_at_call 86; refine (plus_any A A' n c n' c' _ _ _ _ _ (by exact HO1.out) (by exact HO2.out) (by omega) (by omega)).mono ?_; rintro e w3 ⟨v, rfl, hm, hb3⟩; obtain ⟨A3, c3, rfl⟩ := hm.form; have hbc := bto (bdr W) hb3; have q0 := (hbc.cell (p := ⟨b0, 0, none⟩) l0).trans k0; have q1 := (hbc.cell (p := ⟨b0, 1, none⟩) l0).trans k1; have q3 := (hbc.cell (p := ⟨b1, 1, none⟩) l1).trans k3; have q4 := (hbc.cell (p := ⟨b2, 0, none⟩) l2).trans k4; have q5 := (hbc.cell (p := ⟨b2, 1, none⟩) l2).trans k5; have g4 := (hbc.frozen (p := ⟨b2, 0, none⟩) l2).trans f4; have g5 := (hbc.frozen (p := ⟨b2, 1, none⟩) l2).trans f5))
  go_wp2
  refine bodyPost_ret (v := .agg #[.bool ng, .slice A3 (grp (x + y)).length c3]) (by simp [results, Tryz.results67, go_sem, q4, q5]) rfl ?_
  have hle := grp_add_len x y
  refine ⟨ng, x + y, A3, _, c3, rfl, rfl, ?_, own_base (own_far2 hm (own_ge_ne hm (by exact l2)) _ _) (Nat.zero_le _), below_set2 (bto hbW hbc) wz2 _ _⟩
  have := HLX.out; have := HLY.out; omega

set_option maxHeartbeats 2000000 in
set_option maxRecDepth 100000 in
/-- different signs, the first magnitude not less -/
theorem add_ge (ng : Bool) (A A' : Option Addr) (n c n' c' : Nat) (x y : Nat) (w : World) (base base' : Nat) (h : w.ownsRow base 95 1 (.slice A n c) n (U (grp x))) (h' : w.ownsRow base' 95 1 (.slice A' n' c') n' (U (grp y)))
    (hn : n ≤ 100000000) (hxy : y ≤ x) :
    Calls Tryz.prog 67 #[.agg #[.bool ng, .slice A n c], .agg #[.bool !ng, .slice A' n' c']] w (Num2 w (sgn ng (x - y)) 300000000) := by
  have hge := cmp_ge hxy
  have hge2 : ¬ cmpG x y < 0 := fun h1 => by have := (cmpG_neg x y).1 h1; omega
  cases ng
  · show Calls Tryz.prog 67 #[.agg #[.bool false, .slice A n c], .agg #[.bool true, .slice A' n' c']] w (Num2 w (sgn false (x - y)) 300000000)
    obtain ⟨W, hW⟩ : ∃ W, W = ((w.alloc (.cells #[.bool false, .slice A n c] 70)).alloc (.cells #[.bool true, .slice A' n' c'] 70)).alloc (.cells #[.bool false, .slice none 0 0] 70) := ⟨_, rfl⟩
    obtain ⟨b0, hb0⟩ : ∃ b, b = w.heap.size := ⟨_, rfl⟩
    obtain ⟨b1, hb1⟩ : ∃ b, b = b0 + 1 := ⟨_, rfl⟩
    obtain ⟨b2, hb2⟩ : ∃ b, b = b1 + 1 := ⟨_, rfl⟩
    have k0 : W.cell? ⟨b0, 0, none⟩ = some (.bool false) := by rw [hW, hb0]; simp [go_sem]
    have k1 : W.cell? ⟨b0, 1, none⟩ = some (.slice A n c) := by rw [hW, hb0]; simp [go_sem]
    have k2 : W.cell? ⟨b1, 0, none⟩ = some (.bool true) := by rw [hW, hb1, hb0]; simp [go_sem]
    have k3 : W.cell? ⟨b1, 1, none⟩ = some (.slice A' n' c') := by rw [hW, hb1, hb0]; simp [go_sem]
    have k4 : W.cell? ⟨b2, 0, none⟩ = some (.bool false) := by rw [hW, hb2, hb1, hb0]; simp [go_sem]
    have k5 : W.cell? ⟨b2, 1, none⟩ = some (.slice none 0 0) := by rw [hW, hb2, hb1, hb0]; simp [go_sem]
    have f0 : W.frozen? ⟨b0, 0, none⟩ = false := by rw [hW, hb0]; simp [go_sem]
    have f1 : W.frozen? ⟨b0, 1, none⟩ = false := by rw [hW, hb0]; simp [go_sem]
    have f2 : W.frozen? ⟨b1, 0, none⟩ = false := by rw [hW, hb1, hb0]; simp [go_sem]
    have f3 : W.frozen? ⟨b1, 1, none⟩ = false := by rw [hW, hb1, hb0]; simp [go_sem]
    have f4 : W.frozen? ⟨b2, 0, none⟩ = false := by rw [hW, hb2, hb1, hb0]; simp [go_sem]
    have f5 : W.frozen? ⟨b2, 1, none⟩ = false := by rw [hW, hb2, hb1, hb0]; simp [go_sem]
    have hbW : Below w.heap.size w W := by rw [hW]; exact bto (below_alloc _ _) (bto (below_alloc _ _) (below_alloc _ _))
    have l2 : b2 < W.heap.size := by rw [hW, hb2, hb1, hb0]; simp
    have l1 : b1 < W.heap.size := by omega
    have l0 : b0 < W.heap.size := by omega
    have w0 : w.heap.size ≤ b0 := by omega
    have wz2 : w.heap.size ≤ b2 := by omega
    have d01 : ¬ b0 = b1 := by omega
    have d02 : ¬ b0 = b2 := by omega
    have d12 : ¬ b1 = b2 := by omega
    have d10 : ¬ b1 = b0 := by omega
    have d20 : ¬ b2 = b0 := by omega
    have d21 : ¬ b2 = b1 := by omega
    have HO1 := Lib.hid (own_below h hbW)
    have HO2 := Lib.hid (own_below h' hbW)
    have HW := Lib.hid hW
    have HB : Hid (b0 = w.heap.size ∧ b1 = w.heap.size + 1 ∧ b2 = w.heap.size + 1 + 1) := ⟨hb0, by omega, by omega⟩
    have HLX := Lib.hid (own_len h)
    have HLY := Lib.hid (own_len h')
    clear hW h h' hb0 hb1 hb2
    go_enter Tryz.func67, Tryz.ntmps67
    go_wp2_with fail
    rw [← HW.out, ← HB.out.2.2, ← HB.out.2.1, ← HB.out.1]
    go_wp2_with (go_at_call 71; refine (compare_any A A' n c n' c' x y _ base base' (by exact HO1.out) (by exact HO2.out)).mono ?_; rintro e w1 ⟨rfl, kd, rfl⟩)
    go_region_held3 (fun w' => w'.cell? ⟨b0, 0, none⟩ = some (.bool false) ∧ w'.cell? ⟨b0, 1, none⟩ = some (.slice A n c) ∧ w'.cell? ⟨b1, 1, none⟩ = some (.slice A' n' c'))
      (first
        | go_keep
        | (dsimp only; exact ⟨q0, q1, q3⟩))
      (first
        | (go_at_call 87; refine (minus_any A A' n c n' c' _ _ _ _ _ (by exact HO1.out) (by exact HO2.out) (by omega) hxy).mono ?_; rintro e w3 ⟨v, rfl, hm, hb3⟩; obtain ⟨A3, c3, rfl⟩ := hm.form; have hbc := bto (bto (below_drewN W kd) (bdr _)) hb3; have q0 := (hbc.cell (p := ⟨b0, 0, none⟩) l0).trans k0; have q1 := (hbc.cell (p := ⟨b0, 1, none⟩) l0).trans k1; have q3 := (hbc.cell (p := ⟨b1, 1, none⟩) l1).trans k3; have q4 := (hbc.cell (p := ⟨b2, 0, none⟩) l2).trans k4; have q5 := (hbc.cell (p := ⟨b2, 1, none⟩) l2).trans k5; have g4 := (hbc.frozen (p := ⟨b2, 0, none⟩) l2).trans f4; have g5 := (hbc.frozen (p := ⟨b2, 1, none⟩) l2).trans f5))
    go_wp2
    refine bodyPost_ret (v := .agg #[.bool false, .slice A3 (grp (x - y)).length c3]) (by simp [results, Tryz.results67, go_sem, q4, q5]) rfl ?_
    have hle := grp_len_mono (x - y) x (by omega)
    refine ⟨_, x - y, A3, _, c3, rfl, rfl, ?_, own_base (own_far2 hm (own_ge_ne hm (by exact l2)) _ _) (Nat.zero_le _), below_set2 (bto hbW hbc) wz2 _ _⟩
    have := HLX.out; omega
  · show Calls Tryz.prog 67 #[.agg #[.bool true, .slice A n c], .agg #[.bool false, .slice A' n' c']] w (Num2 w (sgn true (x - y)) 300000000)
    obtain ⟨W, hW⟩ : ∃ W, W = ((w.alloc (.cells #[.bool true, .slice A n c] 70)).alloc (.cells #[.bool false, .slice A' n' c'] 70)).alloc (.cells #[.bool false, .slice none 0 0] 70) := ⟨_, rfl⟩
    obtain ⟨b0, hb0⟩ : ∃ b, b = w.heap.size := ⟨_, rfl⟩
    obtain ⟨b1, hb1⟩ : ∃ b, b = b0 + 1 := ⟨_, rfl⟩
    obtain ⟨b2, hb2⟩ : ∃ b, b = b1 + 1 := ⟨_, rfl⟩
    have k0 : W.cell? ⟨b0, 0, none⟩ = some (.bool true) := by rw [hW, hb0]; simp [go_sem]
    have k1 : W.cell? ⟨b0, 1, none⟩ = some (.slice A n c) := by rw [hW, hb0]; simp [go_sem]
    have k2 : W.cell? ⟨b1, 0, none⟩ = some (.bool false) := by rw [hW, hb1, hb0]; simp [go_sem]
    have k3 : W.cell? ⟨b1, 1, none⟩ = some (.slice A' n' c') := by rw [hW, hb1, hb0]; simp [go_sem]
    have k4 : W.cell? ⟨b2, 0, none⟩ = some (.bool false) := by rw [hW, hb2, hb1, hb0]; simp [go_sem]
    have k5 : W.cell? ⟨b2, 1, none⟩ = some (.slice none 0 0) := by rw [hW, hb2, hb1, hb0]; simp [go_sem]
    have f0 : W.frozen? ⟨b0, 0, none⟩ = false := by rw [hW, hb0]; simp [go_sem]
    have f1 : W.frozen? ⟨b0, 1, none⟩ = false := by rw [hW, hb0]; simp [go_sem]
    have f2 : W.frozen? ⟨b1, 0, none⟩ = false := by rw [hW, hb1, hb0]; simp [go_sem]
    have f3 : W.frozen? ⟨b1, 1, none⟩ = false := by rw [hW, hb1, hb0]; simp [go_sem]
    have f4 : W.frozen? ⟨b2, 0, none⟩ = false := by rw [hW, hb2, hb1, hb0]; simp [go_sem]
    have f5 : W.frozen? ⟨b2, 1, none⟩ = false := by rw [hW, hb2, hb1, hb0]; simp [go_sem]
    have hbW : Below w.heap.size w W := by rw [hW]; exact bto (below_alloc _ _) (bto (below_alloc _ _) (below_alloc _ _))
    have l2 : b2 < W.heap.size := by rw [hW, hb2, hb1, hb0]; simp
    have l1 : b1 < W.heap.size := by omega
    have l0 : b0 < W.heap.size := by omega
    have w0 : w.heap.size ≤ b0 := by omega
    have wz2 : w.heap.size ≤ b2 := by omega
    have d01 : ¬ b0 = b1 := by omega
    have d02 : ¬ b0 = b2 := by omega
    have d12 : ¬ b1 = b2 := by omega
    have d10 : ¬ b1 = b0 := by omega
    have d20 : ¬ b2 = b0 := by omega
    have d21 : ¬ b2 = b1 := by omega
    have HO1 := Lib.hid (own_below h hbW)
    have HO2 := Lib.hid (own_below h' hbW)
    have HW := Lib.hid hW
    have HB : Hid (b0 = w.heap.size ∧ b1 = w.heap.size + 1 ∧ b2 = w.heap.size + 1 + 1) := ⟨hb0, by omega, by omega⟩
    have HLX := Lib.hid (own_len h)
    have HLY := Lib.hid (own_len h')
    clear hW h h' hb0 hb1 hb2
    go_enter Tryz.func67, Tryz.ntmps67
    go_wp2_with fail
    rw [← HW.out, ← HB.out.2.2, ← HB.out.2.1, ← HB.out.1]
    go_wp2_with (go_at_call 71; refine (compare_any A A' n c n' c' x y _ base base' (by exact HO1.out) (by exact HO2.out)).mono ?_; rintro e w1 ⟨rfl, kd, rfl⟩)
    go_region_held3 (fun w' => w'.cell? ⟨b0, 0, none⟩ = some (.bool true) ∧ w'.cell? ⟨b0, 1, none⟩ = some (.slice A n c) ∧ w'.cell? ⟨b1, 1, none⟩ = some (.slice A' n' c'))
      (first
        | go_keep
        | (dsimp only; exact ⟨q0, q1, q3⟩))
      (first
        | (go_at_call 87; refine (minus_any A A' n c n' c' _ _ _ _ _ (by exact HO1.out) (by exact HO2.out) (by omega) hxy).mono ?_; rintro e w3 ⟨v, rfl, hm, hb3⟩; obtain ⟨A3, c3, rfl⟩ := hm.form; have hbc := bto (bto (below_drewN W kd) (bdr _)) hb3; have q0 := (hbc.cell (p := ⟨b0, 0, none⟩) l0).trans k0; have q1 := (hbc.cell (p := ⟨b0, 1, none⟩) l0).trans k1; have q3 := (hbc.cell (p := ⟨b1, 1, none⟩) l1).trans k3; have q4 := (hbc.cell (p := ⟨b2, 0, none⟩) l2).trans k4; have q5 := (hbc.cell (p := ⟨b2, 1, none⟩) l2).trans k5; have g4 := (hbc.frozen (p := ⟨b2, 0, none⟩) l2).trans f4; have g5 := (hbc.frozen (p := ⟨b2, 1, none⟩) l2).trans f5))
    go_wp2
    refine bodyPost_ret (v := .agg #[.bool true, .slice A3 (grp (x - y)).length c3]) (by simp [results, Tryz.results67, go_sem, q4, q5]) rfl ?_
    have hle := grp_len_mono (x - y) x (by omega)
    refine ⟨_, x - y, A3, _, c3, rfl, rfl, ?_, own_base (own_far2 hm (own_ge_ne hm (by exact l2)) _ _) (Nat.zero_le _), below_set2 (bto hbW hbc) wz2 _ _⟩
    have := HLX.out; omega

set_option maxHeartbeats 4000000 in
set_option maxRecDepth 100000 in
/-- different signs, the first magnitude less -/
theorem add_lt (ng : Bool) (A A' : Option Addr) (n c n' c' : Nat) (x y : Nat) (w : World) (base base' : Nat) (h : w.ownsRow base 95 1 (.slice A n c) n (U (grp x))) (h' : w.ownsRow base' 95 1 (.slice A' n' c') n' (U (grp y)))
    (hn : n' ≤ 100000000) (hxy : x < y) :
    Calls Tryz.prog 67 #[.agg #[.bool ng, .slice A n c], .agg #[.bool !ng, .slice A' n' c']] w (Num2 w (sgn (!ng) (y - x)) 300000000) := by
  have hlt := cmp_lt hxy
  have hlt2 : cmpG x y < 0 := (cmpG_neg x y).2 hxy
  cases ng
  · show Calls Tryz.prog 67 #[.agg #[.bool false, .slice A n c], .agg #[.bool true, .slice A' n' c']] w (Num2 w (sgn true (y - x)) 300000000)
    obtain ⟨W, hW⟩ : ∃ W, W = ((w.alloc (.cells #[.bool false, .slice A n c] 70)).alloc (.cells #[.bool true, .slice A' n' c'] 70)).alloc (.cells #[.bool false, .slice none 0 0] 70) := ⟨_, rfl⟩
    obtain ⟨b0, hb0⟩ : ∃ b, b = w.heap.size := ⟨_, rfl⟩
    obtain ⟨b1, hb1⟩ : ∃ b, b = b0 + 1 := ⟨_, rfl⟩
    obtain ⟨b2, hb2⟩ : ∃ b, b = b1 + 1 := ⟨_, rfl⟩
    have k0 : W.cell? ⟨b0, 0, none⟩ = some (.bool false) := by rw [hW, hb0]; simp [go_sem]
    have k1 : W.cell? ⟨b0, 1, none⟩ = some (.slice A n c) := by rw [hW, hb0]; simp [go_sem]
    have k2 : W.cell? ⟨b1, 0, none⟩ = some (.bool true) := by rw [hW, hb1, hb0]; simp [go_sem]
    have k3 : W.cell? ⟨b1, 1, none⟩ = some (.slice A' n' c') := by rw [hW, hb1, hb0]; simp [go_sem]
    have k4 : W.cell? ⟨b2, 0, none⟩ = some (.bool false) := by rw [hW, hb2, hb1, hb0]; simp [go_sem]
    have k5 : W.cell? ⟨b2, 1, none⟩ = some (.slice none 0 0) := by rw [hW, hb2, hb1, hb0]; simp [go_sem]
    have f0 : W.frozen? ⟨b0, 0, none⟩ = false := by rw [hW, hb0]; simp [go_sem]
    have f1 : W.frozen? ⟨b0, 1, none⟩ = false := by rw [hW, hb0]; simp [go_sem]
    have f2 : W.frozen? ⟨b1, 0, none⟩ = false := by rw [hW, hb1, hb0]; simp [go_sem]
    have f3 : W.frozen? ⟨b1, 1, none⟩ = false := by rw [hW, hb1, hb0]; simp [go_sem]
    have f4 : W.frozen? ⟨b2, 0, none⟩ = false := by rw [hW, hb2, hb1, hb0]; simp [go_sem]
    have f5 : W.frozen? ⟨b2, 1, none⟩ = false := by rw [hW, hb2, hb1, hb0]; simp [go_sem]
    have hbW : Below w.heap.size w W := by rw [hW]; exact bto (below_alloc _ _) (bto (below_alloc _ _) (below_alloc _ _))
    have l2 : b2 < W.heap.size := by rw [hW, hb2, hb1, hb0]; simp
    have l1 : b1 < W.heap.size := by omega
    have l0 : b0 < W.heap.size := by omega
    have w0 : w.heap.size ≤ b0 := by omega
    have wz2 : w.heap.size ≤ b2 := by omega
    have d01 : ¬ b0 = b1 := by omega
    have d02 : ¬ b0 = b2 := by omega
    have d12 : ¬ b1 = b2 := by omega
    have d10 : ¬ b1 = b0 := by omega
    have d20 : ¬ b2 = b0 := by omega
    have d21 : ¬ b2 = b1 := by omega
    have HO1 := Lib.hid (own_below h hbW)
    have HO2 := Lib.hid (own_below h' hbW)
    have HW := Lib.hid hW
    have HB : Hid (b0 = w.heap.size ∧ b1 = w.heap.size + 1 ∧ b2 = w.heap.size + 1 + 1) := ⟨hb0, by omega, by omega⟩
    have HLX := Lib.hid (own_len h)
    have HLY := Lib.hid (own_len h')
    have HX := Lib.hid h
    have HY := Lib.hid h'
    have w01 : b0 ≤ b1 := by omega
    clear hW h h' hb0 hb1 hb2
    go_enter Tryz.func67, Tryz.ntmps67
    go_wp2_with fail
    rw [← HW.out, ← HB.out.2.2, ← HB.out.2.1, ← HB.out.1]
    go_wp2_with (go_at_call 71; refine (compare_any A A' n c n' c' x y _ base base' (by exact HO1.out) (by exact HO2.out)).mono ?_; rintro e w1 ⟨rfl, kd, rfl⟩)
    obtain ⟨V, hV⟩ : ∃ V, V = ((((W.drewN kd).setCell ⟨b0, 0, none⟩ (.bool true)).setCell ⟨b0, 1, none⟩ (.slice A' n' c')).setCell ⟨b1, 0, none⟩ (.bool false)).setCell ⟨b1, 1, none⟩ (.slice A n c) := ⟨_, rfl⟩
    have hbV : Below w.heap.size w V := by rw [hV]; exact ((((bdrewN hbW kd).setCell (p := ⟨b0, 0, none⟩) w0 _).setCell (p := ⟨b0, 1, none⟩) w0 _).setCell (p := ⟨b1, 0, none⟩) (by exact Nat.le_trans w0 w01) _).setCell (p := ⟨b1, 1, none⟩) (by exact Nat.le_trans w0 w01) _
    have hsV : V.heap.size = W.heap.size := by rw [hV]; simp [World.setCell]
    have k0 : V.cell? ⟨b0, 0, none⟩ = some (.bool true) := by rw [hV]; simp [go_sem, k0]
    have k1 : V.cell? ⟨b0, 1, none⟩ = some (.slice A' n' c') := by rw [hV]; simp [go_sem, k1]
    have k3 : V.cell? ⟨b1, 1, none⟩ = some (.slice A n c) := by rw [hV]; simp [go_sem, k3]
    have k4 : V.cell? ⟨b2, 0, none⟩ = some (.bool false) := by rw [hV]; simp [go_sem, k4]
    have k5 : V.cell? ⟨b2, 1, none⟩ = some (.slice none 0 0) := by rw [hV]; simp [go_sem, k5]
    have f4 : V.frozen? ⟨b2, 0, none⟩ = false := by rw [hV]; simp [go_sem, f4]
    have f5 : V.frozen? ⟨b2, 1, none⟩ = false := by rw [hV]; simp [go_sem, f5]
    have l0 : b0 < V.heap.size := by rw [hsV]; exact l0
    have l1 : b1 < V.heap.size := by rw [hsV]; exact l1
    have l2 : b2 < V.heap.size := by rw [hsV]; exact l2
    have HO1 := Lib.hid (own_below HX.out hbV)
    have HO2 := Lib.hid (own_below HY.out hbV)
    rw [← hV]
    clear hV hsV
    go_region_held3 (fun w' => w'.cell? ⟨b0, 0, none⟩ = some (.bool true) ∧ w'.cell? ⟨b0, 1, none⟩ = some (.slice A' n' c') ∧ w'.cell? ⟨b1, 1, none⟩ = some (.slice A n c))
      (first
        | go_keep
        | (dsimp only; exact ⟨q0, q1, q3⟩))
      (first
        | (go_at_call 87; refine (minus_any A' A n' c' n c _ _ _ _ _ (by exact HO2.out) (by exact HO1.out) (by omega) (Nat.le_of_lt hxy)).mono ?_; rintro e w3 ⟨v, rfl, hm, hb3⟩; obtain ⟨A3, c3, rfl⟩ := hm.form; have hbc := bto (bdr V) hb3; have q0 := (hbc.cell (p := ⟨b0, 0, none⟩) l0).trans k0; have q1 := (hbc.cell (p := ⟨b0, 1, none⟩) l0).trans k1; have q3 := (hbc.cell (p := ⟨b1, 1, none⟩) l1).trans k3; have q4 := (hbc.cell (p := ⟨b2, 0, none⟩) l2).trans k4; have q5 := (hbc.cell (p := ⟨b2, 1, none⟩) l2).trans k5; have g4 := (hbc.frozen (p := ⟨b2, 0, none⟩) l2).trans f4; have g5 := (hbc.frozen (p := ⟨b2, 1, none⟩) l2).trans f5))
    go_wp2
    refine bodyPost_ret (v := .agg #[.bool true, .slice A3 (grp (y - x)).length c3]) (by simp [results, Tryz.results67, go_sem, q4, q5]) rfl ?_
    have hle := grp_len_mono (y - x) y (by omega)
    refine ⟨_, y - x, A3, _, c3, rfl, rfl, ?_, own_base (own_far2 hm (own_ge_ne hm (by exact l2)) _ _) (Nat.zero_le _), below_set2 (bto hbV hbc) wz2 _ _⟩
    have := HLY.out; omega
  · show Calls Tryz.prog 67 #[.agg #[.bool true, .slice A n c], .agg #[.bool false, .slice A' n' c']] w (Num2 w (sgn false (y - x)) 300000000)
    obtain ⟨W, hW⟩ : ∃ W, W = ((w.alloc (.cells #[.bool true, .slice A n c] 70)).alloc (.cells #[.bool false, .slice A' n' c'] 70)).alloc (.cells #[.bool false, .slice none 0 0] 70) := ⟨_, rfl⟩
    obtain ⟨b0, hb0⟩ : ∃ b, b = w.heap.size := ⟨_, rfl⟩
    obtain ⟨b1, hb1⟩ : ∃ b, b = b0 + 1 := ⟨_, rfl⟩
    obtain ⟨b2, hb2⟩ : ∃ b, b = b1 + 1 := ⟨_, rfl⟩
    have k0 : W.cell? ⟨b0, 0, none⟩ = some (.bool true) := by rw [hW, hb0]; simp [go_sem]
    have k1 : W.cell? ⟨b0, 1, none⟩ = some (.slice A n c) := by rw [hW, hb0]; simp [go_sem]
    have k2 : W.cell? ⟨b1, 0, none⟩ = some (.bool false) := by rw [hW, hb1, hb0]; simp [go_sem]
    have k3 : W.cell? ⟨b1, 1, none⟩ = some (.slice A' n' c') := by rw [hW, hb1, hb0]; simp [go_sem]
    have k4 : W.cell? ⟨b2, 0, none⟩ = some (.bool false) := by rw [hW, hb2, hb1, hb0]; simp [go_sem]
    have k5 : W.cell? ⟨b2, 1, none⟩ = some (.slice none 0 0) := by rw [hW, hb2, hb1, hb0]; simp [go_sem]
    have f0 : W.frozen? ⟨b0, 0, none⟩ = false := by rw [hW, hb0]; simp [go_sem]
    have f1 : W.frozen? ⟨b0, 1, none⟩ = false := by rw [hW, hb0]; simp [go_sem]
    have f2 : W.frozen? ⟨b1, 0, none⟩ = false := by rw [hW, hb1, hb0]; simp [go_sem]
    have f3 : W.frozen? ⟨b1, 1, none⟩ = false := by rw [hW, hb1, hb0]; simp [go_sem]
    have f4 : W.frozen? ⟨b2, 0, none⟩ = false := by rw [hW, hb2, hb1, hb0]; simp [go_sem]
    have f5 : W.frozen? ⟨b2, 1, none⟩ = false := by rw [hW, hb2, hb1, hb0]; simp [go_sem]
    have hbW : Below w.heap.size w W := by rw [hW]; exact bto (below_alloc _ _) (bto (below_alloc _ _) (below_alloc _ _))
    have l2 : b2 < W.heap.size := by rw [hW, hb2, hb1, hb0]; simp
    have l1 : b1 < W.heap.size := by omega
    have l0 : b0 < W.heap.size := by omega
    have w0 : w.heap.size ≤ b0 := by omega
    have wz2 : w.heap.size ≤ b2 := by omega
    have d01 : ¬ b0 = b1 := by omega
    have d02 : ¬ b0 = b2 := by omega
    have d12 : ¬ b1 = b2 := by omega
    have d10 : ¬ b1 = b0 := by omega
    have d20 : ¬ b2 = b0 := by omega
    have d21 : ¬ b2 = b1 := by omega
    have HO1 := Lib.hid (own_below h hbW)
    have HO2 := Lib.hid (own_below h' hbW)
    have HW := Lib.hid hW
    have HB : Hid (b0 = w.heap.size ∧ b1 = w.heap.size + 1 ∧ b2 = w.heap.size + 1 + 1) := ⟨hb0, by omega, by omega⟩
    have HLX := Lib.hid (own_len h)
    have HLY := Lib.hid (own_len h')
    have HX := Lib.hid h
    have HY := Lib.hid h'
    have w01 : b0 ≤ b1 := by omega
    clear hW h h' hb0 hb1 hb2
    go_enter Tryz.func67, Tryz.ntmps67
    go_wp2_with fail
    rw [← HW.out, ← HB.out.2.2, ← HB.out.2.1, ← HB.out.1]
    go_wp2_with (go_at_call 71; refine (compare_any A A' n c n' c' x y _ base base' (by exact HO1.out) (by exact HO2.out)).mono ?_; rintro e w1 ⟨rfl, kd, rfl⟩)
    obtain ⟨V, hV⟩ : ∃ V, V = ((((W.drewN kd).setCell ⟨b0, 0, none⟩ (.bool false)).setCell ⟨b0, 1, none⟩ (.slice A' n' c')).setCell ⟨b1, 0, none⟩ (.bool true)).setCell ⟨b1, 1, none⟩ (.slice A n c) := ⟨_, rfl⟩
    have hbV : Below w.heap.size w V := by rw [hV]; exact ((((bdrewN hbW kd).setCell (p := ⟨b0, 0, none⟩) w0 _).setCell (p := ⟨b0, 1, none⟩) w0 _).setCell (p := ⟨b1, 0, none⟩) (by exact Nat.le_trans w0 w01) _).setCell (p := ⟨b1, 1, none⟩) (by exact Nat.le_trans w0 w01) _
    have hsV : V.heap.size = W.heap.size := by rw [hV]; simp [World.setCell]
    have k0 : V.cell? ⟨b0, 0, none⟩ = some (.bool false) := by rw [hV]; simp [go_sem, k0]
    have k1 : V.cell? ⟨b0, 1, none⟩ = some (.slice A' n' c') := by rw [hV]; simp [go_sem, k1]
    have k3 : V.cell? ⟨b1, 1, none⟩ = some (.slice A n c) := by rw [hV]; simp [go_sem, k3]
    have k4 : V.cell? ⟨b2, 0, none⟩ = some (.bool false) := by rw [hV]; simp [go_sem, k4]
    have k5 : V.cell? ⟨b2, 1, none⟩ = some (.slice none 0 0) := by rw [hV]; simp [go_sem, k5]
    have f4 : V.frozen? ⟨b2, 0, none⟩ = false := by rw [hV]; simp [go_sem, f4]
    have f5 : V.frozen? ⟨b2, 1, none⟩ = false := by rw [hV]; simp [go_sem, f5]
    have l0 : b0 < V.heap.size := by rw [hsV]; exact l0
    have l1 : b1 < V.heap.size := by rw [hsV]; exact l1
    have l2 : b2 < V.heap.size := by rw [hsV]; exact l2
    have HO1 := Lib.hid (own_below HX.out hbV)
    have HO2 := Lib.hid (own_below HY.out hbV)
    rw [← hV]
    clear hV hsV
    go_region_held3 (fun w' => w'.cell? ⟨b0, 0, none⟩ = some (.bool false) ∧ w'.cell? ⟨b0, 1, none⟩ = some (.slice A' n' c') ∧ w'.cell? ⟨b1, 1, none⟩ = some (.slice A n c))
      (first
        | go_keep
        | (dsimp only; exact ⟨q0, q1, q3⟩))
      (first
        | (go_at_call 87; refine (minus_any A' A n' c' n c _ _ _ _ _ (by exact HO2.out) (by exact HO1.out) (by omega) (Nat.le_of_lt hxy)).mono ?_; rintro e w3 ⟨v, rfl, hm, hb3⟩; obtain ⟨A3, c3, rfl⟩ := hm.form; have hbc := bto (bdr V) hb3; have q0 := (hbc.cell (p := ⟨b0, 0, none⟩) l0).trans k0; have q1 := (hbc.cell (p := ⟨b0, 1, none⟩) l0).trans k1; have q3 := (hbc.cell (p := ⟨b1, 1, none⟩) l1).trans k3; have q4 := (hbc.cell (p := ⟨b2, 0, none⟩) l2).trans k4; have q5 := (hbc.cell (p := ⟨b2, 1, none⟩) l2).trans k5; have g4 := (hbc.frozen (p := ⟨b2, 0, none⟩) l2).trans f4; have g5 := (hbc.frozen (p := ⟨b2, 1, none⟩) l2).trans f5))
    go_wp2
    refine bodyPost_ret (v := .agg #[.bool false, .slice A3 (grp (y - x)).length c3]) (by simp [results, Tryz.results67, go_sem, q4, q5]) rfl ?_
    have hle := grp_len_mono (y - x) y (by omega)
    refine ⟨_, y - x, A3, _, c3, rfl, rfl, ?_, own_base (own_far2 hm (own_ge_ne hm (by exact l2)) _ _) (Nat.zero_le _), below_set2 (bto hbV hbc) wz2 _ _⟩
    have := HLY.out; omega
end Go.Proofs.YtjhafnnfkaejgaaGreatDoor
