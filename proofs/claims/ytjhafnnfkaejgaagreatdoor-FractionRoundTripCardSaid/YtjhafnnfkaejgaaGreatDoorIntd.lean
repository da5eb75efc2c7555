/- Package integer: add joined, Add, Sub, Canonical, Check, Print, Parse, Compare. -/
import Derived.Test.YtjhafnnfkaejgaaGreatDoorIntc
namespace Go.Proofs.YtjhafnnfkaejgaaGreatDoor
open Go.RowKit Num

theorem Num2.eq {w : World} {z z' : Int} {b : Nat} {e : Ending} {w' : World} (h : Num2 w z b e w') (hz : z = z') : Num2 w z' b e w' := by rw [← hz]; exact h
theorem add_num (nx ny : Bool) (A A' : Option Addr) (n c n' c' : Nat) (x y : Nat) (w : World) (base base' : Nat) (h : w.ownsRow base 95 1 (.slice A n c) n (U (grp x))) (h' : w.ownsRow base' 95 1 (.slice A' n' c') n' (U (grp y)))
    (hn : n ≤ 100000000) (hn' : n' ≤ 100000000) :
    Calls Tryz.prog 67 #[.agg #[.bool nx, .slice A n c], .agg #[.bool ny, .slice A' n' c']] w (Num2 w (sgn nx x + sgn ny y) 300000000) := by
  by_cases hs : ny = nx
  · subst hs
    refine (add_same ny A A' n c n' c' x y w base base' h h' hn hn').mono fun e w' h1 => h1.eq ?_
    unfold sgn; cases ny <;> simp <;> omega
  · have hs' : ny = !nx := by cases nx <;> cases ny <;> simp_all
    subst hs'
    rcases Nat.lt_or_ge x y with hlt | hge
    · refine (add_lt nx A A' n c n' c' x y w base base' h h' hn' hlt).mono fun e w' h1 => h1.eq ?_
      unfold sgn; cases nx <;> simp <;> omega
    · refine (add_ge nx A A' n c n' c' x y w base base' h h' hn hge).mono fun e w' h1 => h1.eq ?_
      unfold sgn; cases nx <;> simp <;> omega

set_option maxHeartbeats 1000000 in
set_option maxRecDepth 100000 in
theorem iadd_any (l l' : List UInt8) (w : World) (hl : l.length ≤ 100000000) (hl' : l'.length ≤ 100000000) (hG : Glob w) :
    Calls Tryz.prog 39 #[.string ⟨l.toArray⟩, .string ⟨l'.toArray⟩] w fun e w' => e = .returned (.string ⟨(canon (val l + val l')).toArray⟩) ∧ Below w.heap.size w w' := by
  go_enter Tryz.func39, Tryz.ntmps39
  go_wp2_with fail
  ((with_reducible refine (read_var l _ hl).mono ?_); rintro e w1 ⟨A, n, c, rfl, hn, ho1, hb1⟩)
  go_wp2_with fail
  ((with_reducible refine (read_var l' _ hl').mono ?_); rintro e w2 ⟨A', n', c', rfl, hn', ho2, hb2⟩)
  go_wp2_with fail
  ((with_reducible refine (add_num _ _ A A' n c n' c' _ _ _ _ _ (by exact own_below ho1 hb2) (by exact ho2) hn hn').mono ?_); rintro e w3 ⟨neg, m, A3, n3, c3, rfl, hz, hn3, ho3, hb3⟩)
  have HZ : Hid (sgn neg m = val l + val l') := by show _ = _; rw [hz, sgn_val, sgn_val]
  clear hz
  go_wp2_with fail
  ((with_reducible refine (text_mag neg A3 n3 c3 m _ _ (by exact ho3) (by exact ((hG.below hb1).below hb2).below hb3) (by omega)).mono ?_); rintro e w4 ⟨rfl, hb4⟩)
  go_wp2_with fail
  go_ret
  exact ⟨by rw [← HZ.out]; rfl, bto hb1 (bto hb2 (bto hb3 hb4))⟩

set_option maxHeartbeats 2000000 in
set_option maxRecDepth 100000 in
theorem isub_any (l l' : List UInt8) (w : World) (hl : l.length ≤ 100000000) (hl' : l'.length ≤ 100000000) (hG : Glob w) :
    Calls Tryz.prog 93 #[.string ⟨l.toArray⟩, .string ⟨l'.toArray⟩] w fun e w' => e = .returned (.string ⟨(canon (val l - val l')).toArray⟩) ∧ Below w.heap.size w w' := by
  go_enter Tryz.func93, Tryz.ntmps93
  go_wp2_with fail
  ((with_reducible refine (read_var l' _ hl').mono ?_); rintro e w1 ⟨A', n', c', rfl, hn', ho1, hb1⟩)
  go_wp2_with fail
  obtain ⟨W, hW⟩ : ∃ W, W = w1.alloc (.cells #[.bool !negB l', .slice A' n' c'] 70) := ⟨_, rfl⟩
  have k0 : W.cell? ⟨w1.heap.size, 0, none⟩ = some (.bool !negB l') := by rw [hW]; simp [go_sem]
  have k1 : W.cell? ⟨w1.heap.size, 1, none⟩ = some (.slice A' n' c') := by rw [hW]; simp [go_sem]
  have hbW : Below w1.heap.size w1 W := by rw [hW]; exact below_alloc _ _
  have l0 : w1.heap.size < W.heap.size := by rw [hW]; simp
  rw [← hW]
  have HO := Lib.hid (own_below ho1 hbW)
  have HGW := Lib.hid ((hG.below hb1).below hbW)
  clear hW ho1 hG
  go_region_held3 (fun w' => w'.cell? ⟨w1.heap.size, 0, none⟩ = some (.bool !negB l') ∧ w'.cell? ⟨w1.heap.size, 1, none⟩ = some (.slice A' n' c'))
    (first
      | go_keep
      | (dsimp only; exact ⟨q0, q1⟩))
    (first
      | (go_at_call 68; refine (read_var l _ hl).mono ?_; rintro e w2 ⟨A, n, c, rfl, hn, ho2, hb2⟩; have hbc := bto (bdr W) hb2; have q0 := (hbc.cell (p := ⟨w1.heap.size, 0, none⟩) l0).trans k0; have q1 := (hbc.cell (p := ⟨w1.heap.size, 1, none⟩) l0).trans k1)
      | (go_at_call 67; refine (add_num _ _ A A' n c n' c' _ _ _ _ _ (by exact ho2) (by exact own_below HO.out hbc) hn hn').mono ?_; rintro e w3 ⟨neg, m, A3, n3, c3, rfl, hz, hn3, ho3, hb3⟩; have q0 := (hb3.cell (p := ⟨w1.heap.size, 0, none⟩) (Nat.lt_of_lt_of_le l0 hbc.size)).trans q0; have q1 := (hb3.cell (p := ⟨w1.heap.size, 1, none⟩) (Nat.lt_of_lt_of_le l0 hbc.size)).trans q1; have hbc := bto hbc hb3; have HZ := Lib.hid hz; clear hz)
      | (go_at_call 69; refine (text_mag neg A3 n3 c3 m _ _ (by exact ho3) (by exact HGW.out.below hbc) (by omega)).mono ?_; rintro e w4 ⟨rfl, hb4⟩; have q0 := (hb4.cell (p := ⟨w1.heap.size, 0, none⟩) (Nat.lt_of_lt_of_le l0 hbc.size)).trans q0; have q1 := (hb4.cell (p := ⟨w1.heap.size, 1, none⟩) (Nat.lt_of_lt_of_le l0 hbc.size)).trans q1; have hbc := bto hbc hb4))
  go_wp2
  go_ret
  refine ⟨?_, bto hb1 (bto hbW hbc)⟩
  have : sgn neg m = val l - val l' := by rw [HZ.out, sgn_val, sgn_not]; omega
  rw [← this]; rfl

theorem digs_len (l : List UInt8) : (digs l).length ≤ l.length := by
  unfold digs sig
  split
  · exact Nat.le_trans (List.dropWhile_sublist _).length_le (rest_len l)
  · simp
theorem canonical_any (l : List UInt8) (w : World) (hl : l.length ≤ 1000000) :
    Calls Tryz.prog 66 #[.string ⟨l.toArray⟩] w fun e w' => e = .returned (.string ⟨(canon (val l)).toArray⟩) ∧ Below w.heap.size w w' := by
  rw [canon_val]
  have hdl := digs_len l
  have hadd := str_add [45] (digs l) (by simp) (by omega)
  by_cases hb : negB l = true
  · rw [if_pos hb]
    go_enter Tryz.func66, Tryz.ntmps66
    go_wp2_with (go_at_call 97; refine (digits_any l _ (by omega)).mono ?_; rintro e w1 ⟨rfl, hb1⟩)
    go_ret
    exact ⟨rfl, hb1⟩
  · have hb' : negB l = false := by simpa using hb
    rw [if_neg hb]
    go_enter Tryz.func66, Tryz.ntmps66
    go_wp2_with (go_at_call 97; refine (digits_any l _ (by omega)).mono ?_; rintro e w1 ⟨rfl, hb1⟩)
    go_ret
    exact ⟨rfl, hb1⟩
end Go.Proofs.YtjhafnnfkaejgaaGreatDoor
