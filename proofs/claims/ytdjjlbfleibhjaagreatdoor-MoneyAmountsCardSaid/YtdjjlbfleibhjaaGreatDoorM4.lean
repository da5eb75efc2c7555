/- Texts put together: Mv My Db Dc. -/
import Derived.Test.YtdjjlbfleibhjaaGreatDoorM3
namespace Go.Proofs.YtdjjlbfleibhjaaGreatDoor
open Go.RowKit Num
open Go.Op (bytesLess)
theorem jBagB {w : World} {A : Option Addr} {xs : List Mon} {n : Nat} (hG : Glob w) (h : ML w A xs n) (c : Nat) : RetB w 42 #[.slice A n c] (.int .i64 (bagE xs)) := fun w' hb => jBag A xs n c w' (hG.below hb) (h.below hb)
/-- what With has made of the first amounts, and whether it is done -/
def wS (m : Mon) : Bool → List Mon → List Mon → List Mon × Bool
  | d, out, [] => (out, d)
  | d, out, x :: r => if d = false ∧ bytesLess x.cur m.cur = false then (if x.cur = m.cur then wS m true (if canon (val x.amt + val m.amt) = [] then out else out ++ [⟨x.cur, canon (val x.amt + val m.amt)⟩]) r else wS m true (if x.amt = [] then out ++ [m] else out ++ [m] ++ [x]) r) else wS m d (if x.amt = [] then out else out ++ [x]) r
theorem wS_with (m : Mon) : ∀ (xs : List Mon) (d : Bool) (out : List Mon), (if (wS m d out xs).2 = true then (wS m d out xs).1 else (wS m d out xs).1 ++ [m]) = out ++ withS m d xs
  | [], d, out => by
    unfold wS withS
    cases d <;> simp
  | x :: r, d, out => by
    unfold wS withS
    by_cases h : d = false ∧ bytesLess x.cur m.cur = false
    · rw [if_pos h, if_pos h]
      by_cases hc : x.cur = m.cur
      · rw [if_pos hc, if_pos hc, wS_with m r true]
        unfold keepN
        by_cases hz : canon (val x.amt + val m.amt) = []
        · rw [if_pos hz, if_pos hz]
        · rw [if_neg hz, if_neg hz]; simp
      · rw [if_neg hc, if_neg hc, wS_with m r true]
        unfold keepN
        by_cases hz : x.amt = []
        · rw [if_pos hz, if_pos hz]; simp
        · rw [if_neg hz, if_neg hz]; simp
    · rw [if_neg h, if_neg h, wS_with m r d]
      unfold keepN
      by_cases hz : x.amt = []
      · rw [if_pos hz, if_pos hz]
      · rw [if_neg hz, if_neg hz]; simp
theorem wS_drop {m : Mon} {d : Bool} {out xs : List Mon} {k : Nat} {x : Mon} (h : xs[k]? = some x) : wS m d out (xs.drop k) = if d = false ∧ bytesLess x.cur m.cur = false then (if x.cur = m.cur then wS m true (if canon (val x.amt + val m.amt) = [] then out else out ++ [⟨x.cur, canon (val x.amt + val m.amt)⟩]) (xs.drop (k + 1)) else wS m true (if x.amt = [] then out ++ [m] else out ++ [m] ++ [x]) (xs.drop (k + 1))) else wS m d (if x.amt = [] then out else out ++ [x]) (xs.drop (k + 1)) := by
  obtain ⟨hk, rfl⟩ := List.getElem?_eq_some_iff.1 h
  rw [List.drop_eq_getElem_cons hk, wS]

theorem blk_grown {w w' : World} {b : Nat} {cs : Array Value} {row : Option Nat} (h : Blk w b cs) (hg : w.grownBy w' row) (hn : row ≠ some b) : Blk w' b cs := by
  have hl := h.lt
  obtain ⟨t, h⟩ := h
  exact ⟨t, (hg.block b hl (fun e => hn e.symm)).trans h⟩
theorem own_ge {w : World} {base n sz : Nat} {ty : TypeId} {v : Value} {cs : List Value} (h : w.ownsRow base ty sz v n cs) : ∀ j, v.ownBlock = some j → base ≤ j := fun j hj => by
  rcases h.2 with ⟨e0, -⟩ | ⟨g, cap, cur, e0, hB, -⟩
  · rw [e0] at hj; cases hj
  · rw [e0] at hj; simp [Value.ownBlock] at hj; omega
theorem own_lt {w : World} {base n sz : Nat} {ty : TypeId} {v : Value} {cs : List Value} (h : w.ownsRow base ty sz v n cs) : ∀ j, v.ownBlock = some j → j < w.heap.size := fun j hj => by
  rcases h.2 with ⟨e0, -⟩ | ⟨g, cap, cur, e0, hB, hg, -⟩
  · rw [e0] at hj; cases hj
  · rw [e0] at hj; simp [Value.ownBlock] at hj; subst hj; exact (Array.getElem?_eq_some_iff.1 hg).1
theorem own_setM {w : World} {base n sz b i : Nat} {ty : TypeId} {v u : Value} {cs : List Value} (h : w.ownsRow base ty sz v n cs) (hn : ∀ j, v.ownBlock = some j → j ≠ b) : (w.setCell ⟨b, i, none⟩ u).ownsRow base ty sz v n cs :=
  h.kept (grownBy_setCell2 w b i u) (.inr (fun e => hn b e rfl))
theorem blk_far {w : World} {b c i : Nat} {u : Value} {cs : Array Value} (h : Blk w b cs) (hn : b ≠ c) : Blk (w.setCell ⟨c, i, none⟩ u) b cs := by
  obtain ⟨t, h⟩ := h
  exact ⟨t, (Below.heap_setCell w ⟨c, i, none⟩ u b hn).trans h⟩
theorem rows_snoc (L : List Mon) (x : Mon) : rowsM (L ++ [x]) = rowsM L ++ [.string ⟨x.cur.toArray⟩, .string ⟨x.amt.toArray⟩] := by rw [rowsM_app]; rfl

set_option maxHeartbeats 16000000 in
set_option maxRecDepth 100000 in
theorem jWith (A : Option Addr) (xs : List Mon) (n c : Nat) (m : Mon) (w : World) (hG : Glob w) (hX : ML w A xs n) (hC : Can xs) (_h1 : m.cur.length ≤ 1000) (h2 : m.amt.length ≤ 1000) :
    Calls Tryz.prog 86 #[.slice A n c, (.agg #[.string ⟨m.cur.toArray⟩, .string ⟨m.amt.toArray⟩])] w fun e w' => ∃ B k cp, e = .returned (.slice B k cp) ∧ (withG xs m).length = k ∧ k ≤ cp ∧ MonAt w' B (withG xs m) ∧ Below w.heap.size w w' := by
  obtain ⟨i0, hi, hz0, hz1, hz2⟩ := info_parts info_mon
  have HW := Lib.hid (wS_with m xs (m.amt == []) [])
  have hwl : (withG xs m) = withS m (m.amt == []) xs := rfl
  rw [List.nil_append, ← hwl] at HW
  have HCn := Lib.hid hC
  have HX := Lib.hid hX
  have hn1 := hX.sm
  have hbM := below_alloc w (.cells #[.string ⟨m.cur.toArray⟩, .string ⟨m.amt.toArray⟩] 25)
  have y3 : Blk (w.alloc (.cells #[.string ⟨m.cur.toArray⟩, .string ⟨m.amt.toArray⟩] 25)) w.heap.size #[.string ⟨m.cur.toArray⟩, .string ⟨m.amt.toArray⟩] := Blk.new w #[.string ⟨m.cur.toArray⟩, .string ⟨m.amt.toArray⟩] 25
  have hbM2 := below_alloc (w.alloc (.cells #[.string ⟨m.cur.toArray⟩, .string ⟨m.amt.toArray⟩] 25)) (.cells #[] 25)
  have hown0 : ((w.alloc (.cells #[.string ⟨m.cur.toArray⟩, .string ⟨m.amt.toArray⟩] 25)).alloc (.cells #[] 25)).ownsRow (w.heap.size + 1) 25 2 (.slice (some ⟨(w.alloc (.cells #[.string ⟨m.cur.toArray⟩, .string ⟨m.amt.toArray⟩] 25)).heap.size, 0, none⟩) 0 0) 0 [] := World.ownsRow_made (w.alloc (.cells #[.string ⟨m.cur.toArray⟩, .string ⟨m.amt.toArray⟩] 25)) #[] 0 (by simp) (Nat.zero_le _) (by simp)
  rw [World.size_alloc] at hown0
  have HO0 := Lib.hid hown0
  have y4 := y3.below hbM2
  have hb0 := bto hbM hbM2
  clear hX hC hwl hown0 hbM hbM2
  have hinit : ∃ d0, d0 = (m.amt == []) := ⟨_, rfl⟩
  obtain ⟨d0, hd0⟩ := hinit
  rw [← hd0] at HW
  have f1 : (m.amt == []) = d0 := hd0.symm
  have f2 : (m.amt).isEmpty = d0 := by rw [hd0]; cases m.amt <;> rfl
  have HD0 := Lib.hid hd0
  clear hd0
  go_enter Tryz.func86, Tryz.ntmps86
  go_wp2_with fail
  clear f1 f2
  go_loopw [5, 6, 7] (fun ov dv iv wr => ∃ (k : Nat) (L : List Mon) (d : Bool) (B : Option Addr) (cp : Nat), k ≤ n ∧ iv = .int .i64 (k : Int) ∧ dv = .bool d ∧ ov = .slice B L.length cp ∧ Hid (wS m (m.amt == []) [] xs = wS m d L (xs.drop k)) ∧ L.length ≤ 2 * k ∧ Hid (wr.ownsRow (w.heap.size + 1) 25 2 (.slice B (L).length cp) (L).length (rowsM (L))) ∧ Blk wr w.heap.size #[.string ⟨m.cur.toArray⟩, .string ⟨m.amt.toArray⟩] ∧ Below w.heap.size w wr) (fun _ _ iv _ => n - (intOf iv).toNat)
  case atStart => exact ⟨0, [], d0, _, 0, Nat.zero_le _, rfl, rfl, rfl, by rw [HD0.out]; exact rfl, Nat.zero_le _, HO0.out, y4, hb0⟩
  case round =>
    clear y3 y4 hb0 HO0
    obtain ⟨k, L, d, B, cp, hk, rfl, rfl, rfl, HQ, hll, HO, x3, hb⟩ := hrel
    by_cases hlt : k < n
    rotate_left
    · have hw0 : wS m d L (xs.drop k) = (L, d) := by rw [List.drop_of_length_le (by rw [HX.out.len]; omega)]; rfl
      have hz := HQ.out.trans hw0
      have HWW := HW.out
      rw [HD0.out, hz] at HWW
      have HV : Hid ((if d = true then L else L ++ [m]) = withG xs m) := HWW
      have hsz0 := hb.size
      have hown := HO.out
      have m0 := x3.c 0
      have m1 := x3.c 1
      clear hw0 hz HWW HW HQ HO
      cases d with
      | true =>
        have HV2 : Hid (L = withG xs m) := HV.out
        obtain ⟨Bz, cz, hBz, hcz, hmz⟩ := own_mon hown rfl
        injection hBz with b1 b2 b3
        subst b1 b3
        have HM := Lib.hid hmz
        clear hmz hown HV
        go_wp2
        go_ret
        exact ⟨B, _, cp, rfl, by rw [← HV2.out], hcz, by rw [← HV2.out]; exact HM.out, hb⟩
      | false =>
        have HV2 : Hid (L ++ [m] = withG xs m) := HV.out
        clear HV
        go_wp2_with (at_builtin; refine wpList_append_own _ rfl _ _ 35 rfl (w.heap.size + 1) 25 i0 (.agg #[.string ⟨#[]⟩, .string ⟨#[]⟩]) 2 32 Tryz.underlying35 hi hz0 hz1 hz2 rfl (by decide) _ _ _ rfl (own_belowM hown (below_alloc _ _)) ⟨wr.heap.size, 0, none⟩ 1 1 [.string ⟨(m.cur).toArray⟩, .string ⟨(m.amt).toArray⟩] rfl rfl ?c1x1 ?c2x1 ?c3x1 ?c4x1 ?c5x1 ?_)
        try (case c1x1 =>
          intro j u hu
          match j with
          | 0 => simp at hu; subst hu; rw [Lib.add_plain]; simp [go_sem]
          | 1 => simp at hu; subst hu; rw [Lib.add_plain]; simp [go_sem]
          | j + 2 => simp at hu)
        try (case c2x1 => first | exact ⟨rfl, rfl⟩ | (intro u hu; simp at hu; rcases hu with rfl | rfl <;> rfl))
        try (case c3x1 => unfold maxLen; omega)
        try (case c4x1 => omega)
        try (case c5x1 => first | omega | (simp; omega) | (simp; have := hb.size; omega) | (simp; have := hbA.size; simp at this; omega))
        intro v7 w7 hown7 hgrow7 _
        obtain ⟨g7, cp7, rfl⟩ := ownsRow_succ hown7
        have x3 := blk_grown (x3.below (below_alloc _ _)) hgrow7 (fun e => by have := own_ge hown _ e; omega)

        have hb7 := Below.grown (hb.alloc (by first | omega | (simp; omega)) _) hgrow7 (by first | omega | (simp; omega)) (fun j ej => by have := own_ge hown j ej; omega)
        have hsz7 := hb7.size
        clear hgrow7
        obtain ⟨Bz, cz, hBz, hcz, hmz⟩ := own_mon (xs := L ++ [m]) (by rw [rows_snoc]; exact hown7) (by simp)
        injection hBz with b1 b2 b3
        subst b1 b3
        have HM := Lib.hid hmz
        clear hmz hown7 hown
        go_wp2
        go_ret
        exact ⟨_, _, cp7, rfl, by rw [← HV2.out]; simp, hcz, by rw [← HV2.out]; exact HM.out, hb7⟩
    obtain ⟨t, ht⟩ : ∃ t, xs[k]? = some t := ⟨_, List.getElem?_eq_getElem (by rw [HX.out.len]; omega)⟩
    obtain ⟨b, o, rfl, hbs, p0, p1⟩ := (HX.out.below hb).mem k t ht
    obtain ⟨hl1, hl2⟩ := HX.out.str t (List.mem_of_getElem? ht)
    have HTa := Lib.hid (HCn.out t (List.mem_of_getElem? ht)).2
    have HD := Lib.hid (wS_drop (m := m) (d := d) (out := L) ht)
    have hbA1 := below_alloc wr (.cells #[.string ⟨t.cur.toArray⟩, .string ⟨t.amt.toArray⟩] 25)
    have x8 : Blk (wr.alloc (.cells #[.string ⟨t.cur.toArray⟩, .string ⟨t.amt.toArray⟩] 25)) wr.heap.size #[.string ⟨t.cur.toArray⟩, .string ⟨t.amt.toArray⟩] := Blk.new wr #[.string ⟨t.cur.toArray⟩, .string ⟨t.amt.toArray⟩] 25
    have hbA := bto hb hbA1
    have hsz0 := hb.size
    have hownA := own_belowM HO.out hbA1
    have hw30 := x3.lt
    replace x3 := x3.below hbA1
    have a1 : (t.amt == []) = false := by rw [beq_eq_false_iff_ne]; exact HTa.out
    have a2 : (t.amt).isEmpty = false := by rw [List.isEmpty_eq_false_iff]; exact HTa.out
    have m0 := x3.c 0
    have m1 := x3.c 1
    have u0 := x8.c 0
    have u1 := x8.c 1
    have hol := own_lt HO.out
    clear ht hb hbA1 HO
    cases d with
    | true =>
      have HQ2 : Hid (wS m (m.amt == []) [] xs = wS m true (L ++ [t]) (xs.drop (k + 1))) := by
        show _ = _
        rw [HQ.out, HD.out, if_neg (fun h => by cases h.1), if_neg HTa.out]
      go_wp2_with (at_builtin; refine wpList_append_own _ rfl _ _ 35 rfl (w.heap.size + 1) 25 i0 (.agg #[.string ⟨#[]⟩, .string ⟨#[]⟩]) 2 32 Tryz.underlying35 hi hz0 hz1 hz2 rfl (by decide) _ _ _ rfl (own_belowM hownA (below_alloc _ _)) ⟨wr.heap.size + 1, 0, none⟩ 1 1 [.string ⟨(t.cur).toArray⟩, .string ⟨(t.amt).toArray⟩] rfl rfl ?c1x6 ?c2x6 ?c3x6 ?c4x6 ?c5x6 ?_)
      try (case c1x6 =>
        intro j u hu
        match j with
        | 0 => simp at hu; subst hu; rw [Lib.add_plain]; simp [go_sem]
        | 1 => simp at hu; subst hu; rw [Lib.add_plain]; simp [go_sem]
        | j + 2 => simp at hu)
      try (case c2x6 => first | exact ⟨rfl, rfl⟩ | (intro u hu; simp at hu; rcases hu with rfl | rfl <;> rfl))
      try (case c3x6 => unfold maxLen; omega)
      try (case c4x6 => omega)
      try (case c5x6 => first | omega | (simp; omega) | (simp; have := hb.size; omega) | (simp; have := hbA.size; simp at this; omega))
      intro v6 w6 hown6 hgrow6 _
      obtain ⟨g6, cp6, rfl⟩ := ownsRow_succ hown6
      have x3 := blk_grown (x3.below (below_alloc _ _)) hgrow6 (fun e => by have := own_ge hownA _ e; omega)

      have hb6 := Below.grown (hbA.alloc (by first | omega | (simp; omega)) _) hgrow6 (by first | omega | (simp; omega)) (fun j ej => by have := own_ge hownA j ej; omega)
      have hsz6 := hb6.size
      clear hgrow6
      have HO6 : Hid (w6.ownsRow (w.heap.size + 1) 25 2 (.slice (some ⟨g6, 0, none⟩) (L ++ [t]).length cp6) (L ++ [t]).length (rowsM (L ++ [t]))) := by
        have := hown6
        show World.ownsRow _ _ _ _ _ _ _
        rw [List.length_append, rows_snoc]; exact this
      clear hown6 hownA
      go_wp2
      go_roundw
      case rel => exact ⟨k + 1, L ++ [t], true, some ⟨g6, 0, none⟩, cp6, by omega, by go_num, rfl, by first | rfl | (rw [List.length_append]; rfl) | simp, HQ2.out, by simp; omega, HO6.out, x3, hb6⟩
      case measure => simp [intOf]; omega
    | false =>
      rcases ltS_tri t.cur m.cur with hlt2 | heq | hgt
      · have HG := Lib.hid hlt2
        have g1 := hlt2
        clear hlt2
        have HQ2 : Hid (wS m (m.amt == []) [] xs = wS m false (L ++ [t]) (xs.drop (k + 1))) := by
          show _ = _
          rw [HQ.out, HD.out, if_neg (fun h => by have := h.2; rw [HG.out] at this; cases this), if_neg HTa.out]
        go_wp2_with (at_builtin; refine wpList_append_own _ rfl _ _ 35 rfl (w.heap.size + 1) 25 i0 (.agg #[.string ⟨#[]⟩, .string ⟨#[]⟩]) 2 32 Tryz.underlying35 hi hz0 hz1 hz2 rfl (by decide) _ _ _ rfl (own_belowM hownA (below_alloc _ _)) ⟨wr.heap.size + 1, 0, none⟩ 1 1 [.string ⟨(t.cur).toArray⟩, .string ⟨(t.amt).toArray⟩] rfl rfl ?c1x2 ?c2x2 ?c3x2 ?c4x2 ?c5x2 ?_)
        try (case c1x2 =>
          intro j u hu
          match j with
          | 0 => simp at hu; subst hu; rw [Lib.add_plain]; simp [go_sem]
          | 1 => simp at hu; subst hu; rw [Lib.add_plain]; simp [go_sem]
          | j + 2 => simp at hu)
        try (case c2x2 => first | exact ⟨rfl, rfl⟩ | (intro u hu; simp at hu; rcases hu with rfl | rfl <;> rfl))
        try (case c3x2 => unfold maxLen; omega)
        try (case c4x2 => omega)
        try (case c5x2 => first | omega | (simp; omega) | (simp; have := hb.size; omega) | (simp; have := hbA.size; simp at this; omega))
        intro v6 w6 hown6 hgrow6 _
        obtain ⟨g6, cp6, rfl⟩ := ownsRow_succ hown6
        have x3 := blk_grown (x3.below (below_alloc _ _)) hgrow6 (fun e => by have := own_ge hownA _ e; omega)

        have hb6 := Below.grown (hbA.alloc (by first | omega | (simp; omega)) _) hgrow6 (by first | omega | (simp; omega)) (fun j ej => by have := own_ge hownA j ej; omega)
        have hsz6 := hb6.size
        clear hgrow6
        have HO6 : Hid (w6.ownsRow (w.heap.size + 1) 25 2 (.slice (some ⟨g6, 0, none⟩) (L ++ [t]).length cp6) (L ++ [t]).length (rowsM (L ++ [t]))) := by
          have := hown6
          show World.ownsRow _ _ _ _ _ _ _
          rw [List.length_append, rows_snoc]; exact this
        clear hown6 hownA
        go_wp2
        go_roundw
        case rel => exact ⟨k + 1, L ++ [t], false, some ⟨g6, 0, none⟩, cp6, by omega, by go_num, rfl, by first | rfl | (rw [List.length_append]; rfl) | simp, HQ2.out, by simp; omega, HO6.out, x3, hb6⟩
        case measure => simp [intOf]; omega
      · have g1 : bytesLess t.cur m.cur = false := by rw [heq]; exact ltS_irr _
        have g2 : (t.cur == m.cur) = true := by rw [beq_iff_eq]; exact heq
        have HG := Lib.hid (And.intro g1 heq)
        have CA := Lib.hid (qAdd (l := t.amt) (l' := m.amt) (by omega) (by omega) rfl)
        obtain ⟨Z, hZ⟩ : ∃ Z, Z = val t.amt + val m.amt := ⟨_, rfl⟩
        rw [← hZ] at CA
        rw [← hZ] at HD
        clear heq hZ
        go_wp2_with fail
        ((with_reducible refine (CA.out.of hG hbA).mono ?_); rintro e w4 ⟨rfl, hb4⟩)
        have x8b := x8.below hb4
        replace x3 := x3.below hb4
        have hb5 := bto hbA hb4
        have hown4 := own_belowM hownA hb4
        have hs4 := hb4.size
        simp only [World.size_alloc] at hs4
        have hown5 := own_setM (i := 1) (u := .string ⟨(canon Z).toArray⟩) hown4 (b := wr.heap.size) (fun j hj => by have := hol j hj; omega)
        have hb6 := hb5.setCell (p := ⟨wr.heap.size, 1, none⟩) hsz0 (.string ⟨(canon Z).toArray⟩)
        have x3 := blk_far (i := 1) (u := .string ⟨(canon Z).toArray⟩) x3 (show w.heap.size ≠ wr.heap.size from by omega)
        have v0 := x8b.c 0
        have v1 := x8b.c 1
        have v2 := x8b.f 1
        clear CA hb4 hbA hownA hown4 u0 u1 m0 m1 x8b hb5
        by_cases hz : Z = 0
        · have e1 : (canon Z == []) = true := by rw [hz]; rfl
          have e2 : (canon Z).isEmpty = true := by rw [hz]; rfl
          have HQ2 : Hid (wS m (m.amt == []) [] xs = wS m true L (xs.drop (k + 1))) := by
            show _ = _
            rw [HQ.out, HD.out, if_pos ⟨by first | rfl | trivial, HG.out.1⟩, if_pos HG.out.2, if_pos ((canon_eq_nil _).2 hz)]
          have HO6 := Lib.hid hown5
          clear hz hown5 HD HQ
          go_wp2
          go_roundw
          case rel => exact ⟨k + 1, L, true, B, cp, by omega, by go_num, rfl, rfl, HQ2.out, by omega, HO6.out, x3, hb6⟩
          case measure => simp [intOf]; omega
        have e1 : (canon Z == []) = false := by rw [beq_eq_false_iff_ne]; exact fun h => hz ((canon_eq_nil _).1 h)
        have e2 : (canon Z).isEmpty = false := by rw [List.isEmpty_eq_false_iff]; exact fun h => hz ((canon_eq_nil _).1 h)
        have HQ2 : Hid (wS m (m.amt == []) [] xs = wS m true (L ++ [Mon.mk t.cur (canon Z)]) (xs.drop (k + 1))) := by
          show _ = _
          rw [HQ.out, HD.out, if_pos ⟨by first | rfl | trivial, HG.out.1⟩, if_pos HG.out.2, if_neg (fun h => hz ((canon_eq_nil _).1 h))]
        generalize canon Z = C at *
        clear hz HD HQ
        go_wp2_with (at_builtin; refine wpList_append_own _ rfl _ _ 35 rfl (w.heap.size + 1) 25 i0 (.agg #[.string ⟨#[]⟩, .string ⟨#[]⟩]) 2 32 Tryz.underlying35 hi hz0 hz1 hz2 rfl (by decide) _ _ _ rfl (own_belowM hown5 (below_alloc _ _)) ⟨w4.heap.size, 0, none⟩ 1 1 [.string ⟨(t.cur).toArray⟩, .string ⟨(C).toArray⟩] rfl rfl ?c1x3 ?c2x3 ?c3x3 ?c4x3 ?c5x3 ?_)
        try (case c1x3 =>
          intro j u hu
          match j with
          | 0 => simp at hu; subst hu; rw [Lib.add_plain]; simp [go_sem]
          | 1 => simp at hu; subst hu; rw [Lib.add_plain]; simp [go_sem]
          | j + 2 => simp at hu)
        try (case c2x3 => first | exact ⟨rfl, rfl⟩ | (intro u hu; simp at hu; rcases hu with rfl | rfl <;> rfl))
        try (case c3x3 => unfold maxLen; omega)
        try (case c4x3 => omega)
        try (case c5x3 => first | omega | (simp; omega) | (simp; have := hb.size; omega) | (simp; have := hbA.size; simp at this; omega))
        intro v6 w6 hown6 hgrow6 _
        obtain ⟨g6, cp6, rfl⟩ := ownsRow_succ hown6
        have x3 := blk_grown (x3.below (below_alloc _ _)) hgrow6 (fun e => by have := own_ge hown5 _ e; omega)

        have hb6 := Below.grown (hb6.alloc (by first | omega | (simp; omega)) _) hgrow6 (by first | omega | (simp; omega)) (fun j ej => by have := own_ge hown5 j ej; omega)
        have hsz6 := hb6.size
        clear hgrow6
        have HO6 : Hid (w6.ownsRow (w.heap.size + 1) 25 2 (.slice (some ⟨g6, 0, none⟩) (L ++ [Mon.mk t.cur C]).length cp6) (L ++ [Mon.mk t.cur C]).length (rowsM (L ++ [Mon.mk t.cur C]))) := by
          have := hown6
          show World.ownsRow _ _ _ _ _ _ _
          rw [List.length_append, rows_snoc]; exact this
        clear hown6 hown5
        go_wp2
        go_roundw
        case rel => exact ⟨k + 1, L ++ [Mon.mk t.cur C], true, some ⟨g6, 0, none⟩, cp6, by omega, by go_num, rfl, by first | rfl | (rw [List.length_append]; rfl) | simp, HQ2.out, by simp; omega, HO6.out, x3, hb6⟩
        case measure => simp [intOf]; omega
      · have g1 := ltS_asym hgt
        have g2 : (t.cur == m.cur) = false := by rw [beq_eq_false_iff_ne]; exact (ltS_ne hgt).symm
        have HG := Lib.hid hgt
        clear hgt
        have HQ2 : Hid (wS m (m.amt == []) [] xs = wS m true (L ++ [m] ++ [t]) (xs.drop (k + 1))) := by
          show _ = _
          rw [HQ.out, HD.out, if_pos ⟨by first | rfl | trivial, ltS_asym HG.out⟩, if_neg (ltS_ne HG.out).symm, if_neg HTa.out]
        clear HD HQ
        go_wp2_with (at_builtin; refine wpList_append_own _ rfl _ _ 35 rfl (w.heap.size + 1) 25 i0 (.agg #[.string ⟨#[]⟩, .string ⟨#[]⟩]) 2 32 Tryz.underlying35 hi hz0 hz1 hz2 rfl (by decide) _ _ _ rfl (own_belowM hownA (below_alloc _ _)) ⟨wr.heap.size + 1, 0, none⟩ 1 1 [.string ⟨(m.cur).toArray⟩, .string ⟨(m.amt).toArray⟩] rfl rfl ?c1x4 ?c2x4 ?c3x4 ?c4x4 ?c5x4 ?_)
        try (case c1x4 =>
          intro j u hu
          match j with
          | 0 => simp at hu; subst hu; rw [Lib.add_plain]; simp [go_sem]
          | 1 => simp at hu; subst hu; rw [Lib.add_plain]; simp [go_sem]
          | j + 2 => simp at hu)
        try (case c2x4 => first | exact ⟨rfl, rfl⟩ | (intro u hu; simp at hu; rcases hu with rfl | rfl <;> rfl))
        try (case c3x4 => unfold maxLen; omega)
        try (case c4x4 => omega)
        try (case c5x4 => first | omega | (simp; omega) | (simp; have := hb.size; omega) | (simp; have := hbA.size; simp at this; omega))
        intro v5 w5 hown5 hgrow5 _
        obtain ⟨g5, cp5, rfl⟩ := ownsRow_succ hown5
        have x3 := blk_grown (x3.below (below_alloc _ _)) hgrow5 (fun e => by have := own_ge hownA _ e; omega)
        have x8 := blk_grown (x8.below (below_alloc _ _)) hgrow5 (fun e => by have := hol _ e; omega)
        have hb5 := Below.grown (hbA.alloc (by first | omega | (simp; omega)) _) hgrow5 (by first | omega | (simp; omega)) (fun j ej => by have := own_ge hownA j ej; omega)
        have hsz5 := hb5.size
        clear hgrow5
        have v0 := x8.c 0
        have v1 := x8.c 1
        clear u0 u1 m0 m1 hownA
        go_wp2_with (at_builtin; refine wpList_append_own _ rfl _ _ 35 rfl (w.heap.size + 1) 25 i0 (.agg #[.string ⟨#[]⟩, .string ⟨#[]⟩]) 2 32 Tryz.underlying35 hi hz0 hz1 hz2 rfl (by decide) _ _ _ rfl (own_belowM hown5 (below_alloc _ _)) ⟨w5.heap.size, 0, none⟩ 1 1 [.string ⟨(t.cur).toArray⟩, .string ⟨(t.amt).toArray⟩] rfl rfl ?c1x5 ?c2x5 ?c3x5 ?c4x5 ?c5x5 ?_)
        try (case c1x5 =>
          intro j u hu
          match j with
          | 0 => simp at hu; subst hu; rw [Lib.add_plain]; simp [go_sem]
          | 1 => simp at hu; subst hu; rw [Lib.add_plain]; simp [go_sem]
          | j + 2 => simp at hu)
        try (case c2x5 => first | exact ⟨rfl, rfl⟩ | (intro u hu; simp at hu; rcases hu with rfl | rfl <;> rfl))
        try (case c3x5 => unfold maxLen; omega)
        try (case c4x5 => omega)
        try (case c5x5 => first | omega | (simp; omega) | (simp; have := hb.size; omega) | (simp; have := hbA.size; simp at this; omega))
        intro v6 w6 hown6 hgrow6 _
        obtain ⟨g6, cp6, rfl⟩ := ownsRow_succ hown6
        have x3 := blk_grown (x3.below (below_alloc _ _)) hgrow6 (fun e => by have := own_ge hown5 _ e; omega)

        have hb6 := Below.grown (hb5.alloc (by first | omega | (simp; omega)) _) hgrow6 (by first | omega | (simp; omega)) (fun j ej => by have := own_ge hown5 j ej; omega)
        have hsz6 := hb6.size
        clear hgrow6
        have HO6 : Hid (w6.ownsRow (w.heap.size + 1) 25 2 (.slice (some ⟨g6, 0, none⟩) (L ++ [m] ++ [t]).length cp6) (L ++ [m] ++ [t]).length (rowsM (L ++ [m] ++ [t]))) := by
          have := hown6
          show World.ownsRow _ _ _ _ _ _ _
          rw [show (L ++ [m] ++ [t]).length = L.length + 1 + 1 by simp, rows_snoc, rows_snoc]; first | exact this | (rw [List.append_assoc] at this ⊢; exact this) | simpa using this
        clear hown6 hown5
        go_wp2
        go_roundw
        case rel => exact ⟨k + 1, L ++ [m] ++ [t], true, some ⟨g6, 0, none⟩, cp6, by omega, by go_num, rfl, by first | rfl | (rw [List.length_append]; rfl) | simp, HQ2.out, by simp; omega, HO6.out, x3, hb6⟩
        case measure => simp [intOf]; omega

end Go.Proofs.YtdjjlbfleibhjaaGreatDoor
namespace Go.Proofs.YtdjjlbfleibhjaaGreatDoor
open Go.RowKit Num
theorem with_lt {k : Nat} {a : List Mon} {m : Mon} (ha : Bag a) (h : AmtLt k a) (hm : m.amt = canon (val m.amt)) (hl : (val m.amt).natAbs < 10 ^ k) : AmtLt (k + 1) (withG a m) := by
  rw [with_sum ha.srt ha.can hm]; exact put_lt ha h hl
theorem with_bag {a : List Mon} {m : Mon} (ha : Bag a) (hm : m.amt = canon (val m.amt)) : Bag (withG a m) := ⟨(with_ok hm ha.srt ha.can).srt, (with_ok hm ha.srt ha.can).can⟩
theorem fold_facts {K : Nat} : ∀ (b : List Mon) {k : Nat} {a : List Mon}, Bag a → AmtLt k a → K ≤ k → (∀ m ∈ b, m.amt = canon (val m.amt) ∧ (val m.amt).natAbs < 10 ^ K) →
    Bag (b.foldl withG a) ∧ AmtLt (k + b.length) (b.foldl withG a) ∧ ∀ y ∈ b.foldl withG a, (∃ x ∈ a, x.cur = y.cur) ∨ ∃ x ∈ b, x.cur = y.cur
  | [], _, _, ha, h, _, _ => ⟨ha, h, fun y hy => .inl ⟨y, hy, rfl⟩⟩
  | m :: r, k, a, ha, h, hk, hl => by
    have hm := hl m (List.mem_cons_self ..)
    obtain ⟨i1, i2, i3⟩ := fold_facts r (with_bag ha hm.1) (with_lt ha h hm.1 (Nat.lt_of_lt_of_le hm.2 (Nat.pow_le_pow_right (by decide) hk))) (by omega) (fun x hx => hl x (List.mem_cons_of_mem _ hx))
    refine ⟨i1, ?_, fun y hy => ?_⟩
    · rw [List.foldl_cons, List.length_cons, show k + (r.length + 1) = k + 1 + r.length by omega]; exact i2
    · rcases i3 y hy with ⟨x, hx, e⟩ | ⟨x, hx, e⟩
      · rcases (with_ok hm.1 ha.srt ha.can).key x hx with h1 | ⟨z, hz, h1⟩
        · exact .inr ⟨m, List.mem_cons_self .., h1.symm.trans e⟩
        · exact .inl ⟨z, hz, h1.trans e⟩
      · exact .inr ⟨x, List.mem_cons_of_mem _ hx, e⟩

set_option maxHeartbeats 4000000 in
set_option maxRecDepth 100000 in
theorem jPut (A : Option Addr) (xs : List Mon) (n c : Nat) (m : Mon) (w : World) (hG : Glob w) (hX : ML w A xs n) (h1 : m.cur.length ≤ 1000) (h2 : m.amt.length ≤ 1000) :
    Calls Tryz.prog 40 #[.slice A n c, (.agg #[.string ⟨m.cur.toArray⟩, .string ⟨m.amt.toArray⟩])] w (MonEnd (putV xs m).1 (putV xs m).2 w) := by
  have CB := Lib.hid (jBagB hG hX c)
  have HX := Lib.hid hX
  have hb := below_alloc w (.cells #[.string ⟨m.cur.toArray⟩, .string ⟨m.amt.toArray⟩] 25)
  have x3 := FBox.new w (.string ⟨m.cur.toArray⟩) (.string ⟨m.amt.toArray⟩) 25
  clear hX
  by_cases g0 : bagE xs = 0
  rotate_left
  · have HV : Hid (putV xs m = ([], 1)) := if_pos g0
    have e1 : (bagE xs != 0) = true := bneq' (intbne g0)
    generalize bagE xs = E at *
    clear g0
    go_enter Tryz.func40, Tryz.ntmps40
    go_wp2_with fail
    ((with_reducible refine (CB.out.of hG hb).mono ?_); rintro e w2 ⟨rfl, hb2⟩)
    replace x3 := x3.below hb2
    replace hb := bto hb hb2
    clear hb2
    clear CB x3
    go_wp2
    go_ret2
    exact monEnd_no HV.out hb
  have HV0 : Hid (putV xs m = if ¬ codeB m.cur = true then ([], 23) else if ¬ m.amt = canon (val m.amt) then ([], 1) else (smR xs [m], smE xs [m])) := if_neg (fun h => h g0)
  have HBg := Lib.hid (bagE_ok g0)
  rw [g0] at CB
  clear g0
  have CD := Lib.hid (jCode5L (l := m.cur) (by omega))
  by_cases gd : codeB m.cur = true
  rotate_left
  · have HV : Hid (putV xs m = ([], 23)) := HV0.out.trans (if_pos gd)
    have e1 := not_true_b gd
    rw [e1] at CD
    clear gd e1 HV0
    go_enter Tryz.func40, Tryz.ntmps40
    go_wp2_with fail
    ((with_reducible refine (CB.out.of hG hb).mono ?_); rintro e w2 ⟨rfl, hb2⟩)
    replace x3 := x3.below hb2
    replace hb := bto hb hb2
    clear hb2
    have q0 := x3.c0
    clear CB
    go_wp2_with fail
    ((with_reducible refine (CD.out.of hG hb).mono ?_); rintro e w3 ⟨rfl, hb3⟩)
    replace x3 := x3.below hb3
    replace hb := bto hb hb3
    clear hb3
    clear CD q0 x3
    go_wp2
    go_ret2
    exact monEnd_no HV.out hb
  have HV1 : Hid (putV xs m = if ¬ m.amt = canon (val m.amt) then ([], 1) else (smR xs [m], smE xs [m])) := HV0.out.trans (if_neg (fun h => h gd))
  rw [gd] at CD
  clear gd HV0
  by_cases gv : m.amt = canon (val m.amt)
  rotate_left
  · have HV : Hid (putV xs m = ([], 1)) := HV1.out.trans (if_pos gv)
    have CC := Lib.hid (qCheck (l := m.amt) (c := 1) (by omega) (if_neg gv))
    clear gv HV1
    go_enter Tryz.func40, Tryz.ntmps40
    go_wp2_with fail
    ((with_reducible refine (CB.out.of hG hb).mono ?_); rintro e w2 ⟨rfl, hb2⟩)
    replace x3 := x3.below hb2
    replace hb := bto hb hb2
    clear hb2
    have q0 := x3.c0
    clear CB
    go_wp2_with fail
    ((with_reducible refine (CD.out.of hG hb).mono ?_); rintro e w3 ⟨rfl, hb3⟩)
    replace x3 := x3.below hb3
    replace hb := bto hb hb3
    clear hb3
    clear CD q0
    have q1 := x3.c1
    go_wp2_with fail
    ((with_reducible refine (CC.out.of hG hb).mono ?_); rintro e w4 ⟨rfl, hb4⟩)
    replace x3 := x3.below hb4
    replace hb := bto hb hb4
    clear hb4
    clear CC q1 x3
    go_wp2
    go_ret2
    exact monEnd_no HV.out hb
  have HV2 : Hid (putV xs m = (smR xs [m], smE xs [m])) := HV1.out.trans (if_neg (fun h => h gv))
  have HWs := Lib.hid (with_sum HBg.out.1.srt HBg.out.1.can gv)
  have CC := Lib.hid (qCheck (l := m.amt) (c := 0) (by omega) (if_pos gv))
  clear gv HV1
  go_enter Tryz.func40, Tryz.ntmps40
  go_wp2_with fail
  ((with_reducible refine (CB.out.of hG hb).mono ?_); rintro e w2 ⟨rfl, hb2⟩)
  replace x3 := x3.below hb2
  replace hb := bto hb hb2
  clear hb2
  have q0 := x3.c0
  clear CB
  go_wp2_with fail
  ((with_reducible refine (CD.out.of hG hb).mono ?_); rintro e w3 ⟨rfl, hb3⟩)
  replace x3 := x3.below hb3
  replace hb := bto hb hb3
  clear hb3
  clear CD q0
  have q1 := x3.c1
  go_wp2_with fail
  ((with_reducible refine (CC.out.of hG hb).mono ?_); rintro e w4 ⟨rfl, hb4⟩)
  replace x3 := x3.below hb4
  replace hb := bto hb hb4
  clear hb4
  clear CC q1
  have q0 := x3.c0
  have q1 := x3.c1
  have CS := Lib.hid (jWith A xs n c m w4 (hG.below hb) (HX.out.below hb) HBg.out.1.can h1 h2)
  go_wp2_with fail
  refine CS.out.mono ?_
  rintro e w5 ⟨B, k, cp, rfl, k1, k2, k3, hb5⟩
  rw [HWs.out] at k1 k3
  have HK1 := Lib.hid k1
  have HK3 := Lib.hid k3
  replace hb := bto hb hb5
  clear CS q0 q1 x3 k1 k3 hb5
  by_cases g16 : 16 < k
  · have e1 : decide (16 < k) = true := decide_eq_true g16
    have e2 : decide ((16 : Int) < (k : Int)) = true := decide_eq_true (by omega)
    have HV : Hid (putV xs m = ([], 4)) := by show _ = _; rw [HV2.out]; unfold smR smE; rw [if_pos (by rw [HK1.out]; exact g16), if_pos (by rw [HK1.out]; exact g16)]
    clear g16
    go_wp2
    go_ret2
    exact monEnd_no HV.out hb
  have e1 : decide (16 < k) = false := decide_eq_false g16
  have e2 : decide ((16 : Int) < (k : Int)) = false := decide_eq_false (by omega)
  have HV : Hid (putV xs m = (smL xs [m], 0)) := by show _ = _; rw [HV2.out]; unfold smR smE; rw [if_neg (by rw [HK1.out]; exact g16), if_neg (by rw [HK1.out]; exact g16)]
  clear g16
  go_wp2
  go_ret2
  exact ⟨B, k, cp, by rw [HV.out]; rfl, by rw [HV.out]; exact HK1.out, k2, by rw [HV.out]; exact HK3.out, hb⟩

set_option maxHeartbeats 4000000 in
set_option maxRecDepth 100000 in
theorem jSum (A B : Option Addr) (xs ys : List Mon) (n c n' c' : Nat) (w : World) (hG : Glob w) (hX : ML w A xs n) (hc : n ≤ c) (hY : ML w B ys n') (hx1 : ∀ t ∈ xs, t.amt.length ≤ 100) (hy1 : ∀ t ∈ ys, t.amt.length ≤ 100) :
    Calls Tryz.prog 27 #[.slice A n c, .slice B n' c'] w (MonEnd (sumV xs ys).1 (sumV xs ys).2 w) := by
  have CB := Lib.hid (jBagB hG hX c)
  have CC := Lib.hid (jBagB hG hY c')
  have HX := Lib.hid hX
  have HY := Lib.hid hY
  have HX1 := Lib.hid hx1
  have HY1 := Lib.hid hy1
  have hb := Below.refl w.heap.size w
  clear hX hY hx1 hy1
  by_cases g0 : bagE xs = 0
  rotate_left
  · have HV : Hid (sumV xs ys = ([], 1)) := if_pos g0
    have e1 : (bagE xs != 0) = true := bneq' (intbne g0)
    generalize bagE xs = E at *
    clear g0 CC
    go_enter Tryz.func27, Tryz.ntmps27
    go_wp2_with fail
    ((with_reducible refine (CB.out.of hG hb).mono ?_); rintro e w2 ⟨rfl, hb2⟩)
    replace hb := bto hb hb2
    clear hb2
    clear CB
    go_wp2
    go_ret2
    exact monEnd_no HV.out hb
  have HV0 : Hid (sumV xs ys = if ¬ bagE ys = 0 then ([], 1) else (smR xs ys, smE xs ys)) := if_neg (fun h => h g0)
  have HBx := Lib.hid (bagE_ok g0)
  rw [g0] at CB
  clear g0
  by_cases g1 : bagE ys = 0
  rotate_left
  · have HV : Hid (sumV xs ys = ([], 1)) := HV0.out.trans (if_pos g1)
    have e1 : (bagE ys != 0) = true := bneq' (intbne g1)
    generalize bagE ys = E at *
    clear g1 HV0
    go_enter Tryz.func27, Tryz.ntmps27
    go_wp2_with fail
    ((with_reducible refine (CB.out.of hG hb).mono ?_); rintro e w2 ⟨rfl, hb2⟩)
    replace hb := bto hb hb2
    clear hb2
    clear CB
    go_wp2_with fail
    ((with_reducible refine (CC.out.of hG hb).mono ?_); rintro e w3 ⟨rfl, hb3⟩)
    replace hb := bto hb hb3
    clear hb3
    clear CC
    go_wp2
    go_ret2
    exact monEnd_no HV.out hb
  have HV2 : Hid (sumV xs ys = (smR xs ys, smE xs ys)) := HV0.out.trans (if_neg (fun h => h g1))
  have HBy := Lib.hid (bagE_ok g1)
  rw [g1] at CC
  clear g1 HV0
  have HF : Hid (∀ k, k ≤ n' → Bag ((ys.take k).foldl withG xs) ∧ (∀ t ∈ (ys.take k).foldl withG xs, t.cur.length ≤ 1000 ∧ t.amt.length ≤ 1000) ∧ ((ys.take k).foldl withG xs).length ≤ 1000) := fun k hk => by
    have hl := HBy.out.2.2
    have hyl := HY.out.len
    have hky : (ys.take k).length ≤ 16 := by rw [List.length_take]; omega
    obtain ⟨f1, f2, f3⟩ := fold_facts (K := 100) (ys.take k) (k := 100) (a := xs) HBx.out.1 (fun x hx => val_lt_of (HX1.out x hx)) (Nat.le_refl _) (fun x hx => ⟨(HBy.out.1.can x (List.mem_of_mem_take hx)).1, val_lt_of (HY1.out x (List.mem_of_mem_take hx))⟩)
    refine ⟨f1, fun t ht => ⟨?_, Nat.le_trans (can_len f1.can f2 t ht) (by omega)⟩, ?_⟩
    · rcases f3 t ht with ⟨x, hx, e⟩ | ⟨x, hx, e⟩
      · rw [← e]; exact (HX.out.str x hx).1
      · rw [← e]; exact (HY.out.str x (List.mem_of_mem_take hx)).1
    · have f4 := (fold_ok (ys.take k) HBx.out.1.srt HBx.out.1.can (fun x hx => (HBy.out.1.can x (List.mem_of_mem_take hx)).1)).2.2
      have := HBx.out.2.2
      omega
  have hyl : n' ≤ 16 := by have := HBy.out.2.2; have := HY.out.len; omega
  go_enter Tryz.func27, Tryz.ntmps27
  go_wp2_with fail
  ((with_reducible refine (CB.out.of hG hb).mono ?_); rintro e w2 ⟨rfl, hb2⟩)
  replace hb := bto hb hb2
  clear hb2
  clear CB
  go_wp2_with fail
  ((with_reducible refine (CC.out.of hG hb).mono ?_); rintro e w3 ⟨rfl, hb3⟩)
  replace hb := bto hb hb3
  clear hb3
  clear CC
  go_wp2_with fail
  go_loopw [6, 7] (fun ov iv wr => ∃ (k : Nat) (C : Option Addr) (m cp : Nat), k ≤ n' ∧ iv = .int .i64 (k : Int) ∧ ov = .slice C m cp ∧ m ≤ cp ∧ Hid (((ys.take k).foldl withG xs).length = m) ∧ Hid (MonAt wr C ((ys.take k).foldl withG xs)) ∧ Below w.heap.size w wr) (fun _ iv _ => n' - (intOf iv).toNat)
  case atStart => exact ⟨0, A, n, c, Nat.zero_le _, rfl, rfl, hc, HX.out.len, (HX.out.below hb).mem, hb⟩
  case round =>
    clear hb
    obtain ⟨k, C, m, cp, hk, rfl, rfl, hcp, HL, HM, hb⟩ := hrel
    obtain ⟨hF1, hF2, hF3⟩ := HF.out k hk
    rw [HL.out] at hF3
    have HF1 := Lib.hid hF1
    have HF2 := Lib.hid hF2
    clear hF1 hF2
    by_cases hlt : k < n'
    · obtain ⟨t, ht⟩ : ∃ t, ys[k]? = some t := ⟨_, List.getElem?_eq_getElem (by rw [HY.out.len]; omega)⟩
      obtain ⟨b, o, rfl, hbs, p0, p1⟩ := (HY.out.below hb).mem k t ht
      obtain ⟨hl1, hl2⟩ := HY.out.str t (List.mem_of_getElem? ht)
      have HS := Lib.hid (foldl_snoc withG ht xs)
      have CW := Lib.hid (jWith C ((ys.take k).foldl withG xs) m cp t wr (hG.below hb) ⟨HL.out, hF3, HF2.out, HM.out⟩ HF1.out.can hl1 hl2)
      clear ht HM HL
      go_wp2_with fail
      refine CW.out.mono ?_
      rintro e w5 ⟨D, m', cp', rfl, k1, k2, k3, hb5⟩
      rw [← HS.out] at k1 k3
      have HK1 := Lib.hid k1
      have HK3 := Lib.hid k3
      replace hb := bto hb hb5
      clear CW k1 k3 hb5 p0 p1 HS
      go_wp2
      go_roundw
      case rel => exact ⟨k + 1, D, m', cp', by omega, by go_num, rfl, k2, HK1.out, HK3.out, hb⟩
      case measure => simp [intOf]; omega
    · have hfs : (ys.take k).foldl withG xs = smL xs ys := by rw [List.take_of_length_le (by rw [HY.out.len]; omega)]; exact fold_sum HBx.out.1.srt HBx.out.1.can HBy.out.1.srt HBy.out.1.can
      rw [hfs] at HL HM
      clear hfs HF1 HF2
      by_cases g16 : 16 < m
      · have e1 : decide (16 < m) = true := decide_eq_true g16
        have e2 : decide ((16 : Int) < (m : Int)) = true := decide_eq_true (by omega)
        have HV : Hid (sumV xs ys = ([], 4)) := by show _ = _; rw [HV2.out]; unfold smR smE; rw [if_pos (by rw [HL.out]; exact g16), if_pos (by rw [HL.out]; exact g16)]
        clear g16
        go_wp2
        go_ret2
        exact monEnd_no HV.out hb
      have e1 : decide (16 < m) = false := decide_eq_false g16
      have e2 : decide ((16 : Int) < (m : Int)) = false := decide_eq_false (by omega)
      have HV : Hid (sumV xs ys = (smL xs ys, 0)) := by show _ = _; rw [HV2.out]; unfold smR smE; rw [if_neg (by rw [HL.out]; exact g16), if_neg (by rw [HL.out]; exact g16)]
      clear g16
      go_wp2
      go_ret2
      exact ⟨C, m, cp, by rw [HV.out]; rfl, by rw [HV.out]; exact HL.out, hcp, by rw [HV.out]; exact HM.out, hb⟩

set_option maxHeartbeats 4000000 in
set_option maxRecDepth 100000 in
theorem jNeg (A : Option Addr) (xs : List Mon) (n c : Nat) (w : World) (hG : Glob w) (hX : ML w A xs n) :
    Calls Tryz.prog 41 #[.slice A n c] w (MonEnd (negV xs).1 (negV xs).2 w) := by
  obtain ⟨i0, hi, hz0, hz1, hz2⟩ := info_parts info_mon
  have CB := Lib.hid (jBagB hG hX c)
  have HX := Lib.hid hX
  have hb := Below.refl w.heap.size w
  have hn1 := hX.sm
  clear hX
  by_cases g0 : bagE xs = 0
  rotate_left
  · have HV : Hid (negV xs = ([], 1)) := if_pos g0
    have e1 : (bagE xs != 0) = true := bneq' (intbne g0)
    generalize bagE xs = E at *
    clear g0
    go_enter Tryz.func41, Tryz.ntmps41
    go_wp2_with fail
    ((with_reducible refine (CB.out.of hG hb).mono ?_); rintro e w2 ⟨rfl, hb2⟩)
    replace hb := bto hb hb2
    clear hb2
    clear CB
    go_wp2
    go_ret2
    exact monEnd_no HV.out hb
  have HV : Hid (negV xs = (xs.map negM, 0)) := if_neg (fun h => h g0)
  rw [g0] at CB
  clear g0
  go_enter Tryz.func41, Tryz.ntmps41
  go_wp2_with fail
  ((with_reducible refine (CB.out.of hG hb).mono ?_); rintro e w2 ⟨rfl, hb2⟩)
  replace hb := bto hb hb2
  clear hb2
  clear CB
  have hown0 : (w2.alloc (.cells #[] 25)).ownsRow w.heap.size 25 2 (.slice (some ⟨w2.heap.size, 0, none⟩) 0 0) 0 [] := World.ownsRow_made w2 #[] 0 hb.size (Nat.zero_le _) (by simp)
  have HO0 := Lib.hid hown0
  replace hb := bto hb (below_alloc w2 (.cells #[] 25))
  clear hown0
  go_wp2_with fail
  go_loopw [4, 5] (fun ov iv wr => ∃ (k : Nat) (B : Option Addr) (cp : Nat), k ≤ n ∧ iv = .int .i64 (k : Int) ∧ ov = .slice B k cp ∧ Hid (wr.ownsRow w.heap.size 25 2 (.slice B k cp) k (rowsM ((xs.take k).map negM))) ∧ Below w.heap.size w wr) (fun _ iv _ => n - (intOf iv).toNat)
  case atStart => exact ⟨0, _, 0, Nat.zero_le _, rfl, rfl, HO0.out, hb⟩
  case round =>
    clear hb HO0
    obtain ⟨k, B, cp, hk, rfl, rfl, HO, hb⟩ := hrel
    by_cases hlt : k < n
    · obtain ⟨t, ht⟩ : ∃ t, xs[k]? = some t := ⟨_, List.getElem?_eq_getElem (by rw [HX.out.len]; omega)⟩
      obtain ⟨b, o, rfl, hbs, p0, p1⟩ := (HX.out.below hb).mem k t ht
      obtain ⟨hl1, hl2⟩ := HX.out.str t (List.mem_of_getElem? ht)
      have CN := Lib.hid (qNeg (l := t.amt) (by omega) rfl)
      have HR := Lib.hid (show (xs.take (k + 1)).map negM = (xs.take k).map negM ++ [Mon.mk t.cur (canon (- val t.amt))] from by
        obtain ⟨hk2, rfl⟩ := List.getElem?_eq_some_iff.1 ht
        rw [List.take_succ_eq_append_getElem hk2, List.map_append]; rfl)
      generalize canon (- val t.amt) = C at *
      have hlk : (k : Int) < (n : Int) := by omega
      have hsz := hb.size
      clear ht
      go_wp2_with fail
      refine wp_region_tail2D (by simp) (by simp) (by kernel_rfl) (by kernel_rfl) (by kernel_rfl) (by kernel_rfl) (by kernel_rfl) ?_
      simp only [List.dropLast_cons_cons, List.dropLast_singleton, List.getLast_cons_cons, List.getLast_singleton]
      refine kept_val _ (fun _ => rfl) (fun ρ w hw => by go_simp; first | done | with_reducible rfl) ?_
      simp only [Act.put, List.setIfInBounds_toArray, List.set_cons_zero, List.set_cons_succ, Nat.reduceAdd]
      refine kept_val _ (fun _ => rfl) (fun ρ w hw => by go_simp; first | done | with_reducible rfl) ?_
      simp only [Act.put, List.setIfInBounds_toArray, List.set_cons_zero, List.set_cons_succ, Nat.reduceAdd]
      refine kept_val _ (fun _ => rfl) (fun ρ w hw => by go_simp; first | done | with_reducible rfl) ?_
      simp only [Act.put, List.setIfInBounds_toArray, List.set_cons_zero, List.set_cons_succ, Nat.reduceAdd]
      refine kept_val _ (fun _ => rfl) (fun ρ w hw => by go_simp; first | done | with_reducible rfl) ?_
      simp only [Act.put, List.setIfInBounds_toArray, List.set_cons_zero, List.set_cons_succ, Nat.reduceAdd]
      refine kept_val _ (fun _ => rfl) (fun ρ w hw => by go_simp; first | done | with_reducible rfl) ?_
      simp only [Act.put, List.setIfInBounds_toArray, List.set_cons_zero, List.set_cons_succ, Nat.reduceAdd]
      refine kept_val _ (fun _ => rfl) (fun ρ w hw => by have q0 := (hw.cell (p := ⟨b, o + k * 2, none⟩) hbs).trans p0; go_simp; first | done | with_reducible rfl) ?_
      simp only [Act.put, List.setIfInBounds_toArray, List.set_cons_zero, List.set_cons_succ, Nat.reduceAdd]
      refine kept_val _ (fun _ => rfl) (fun ρ w hw => by go_simp; first | done | with_reducible rfl) ?_
      simp only [Act.put, List.setIfInBounds_toArray, List.set_cons_zero, List.set_cons_succ, Nat.reduceAdd]
      refine kept_val _ (fun _ => rfl) (fun ρ w hw => by go_simp; first | done | with_reducible rfl) ?_
      simp only [Act.put, List.setIfInBounds_toArray, List.set_cons_zero, List.set_cons_succ, Nat.reduceAdd]
      refine kept_val _ (fun _ => rfl) (fun ρ w hw => by go_simp; first | done | with_reducible rfl) ?_
      simp only [Act.put, List.setIfInBounds_toArray, List.set_cons_zero, List.set_cons_succ, Nat.reduceAdd]
      refine kept_val _ (fun _ => rfl) (fun ρ w hw => by go_simp; first | done | with_reducible rfl) ?_
      simp only [Act.put, List.setIfInBounds_toArray, List.set_cons_zero, List.set_cons_succ, Nat.reduceAdd]
      refine kept_val _ (fun _ => rfl) (fun ρ w hw => by have q0 := (hw.cell (p := ⟨b, o + k * 2 + 1, none⟩) hbs).trans p1; go_simp; first | done | with_reducible rfl) ?_
      simp only [Act.put, List.setIfInBounds_toArray, List.set_cons_zero, List.set_cons_succ, Nat.reduceAdd]
      refine kept_call _ _ _ (fun _ => rfl) (fun ρ w hw => by go_simp; first | done | with_reducible rfl) (fun w hw => CN.out.of (hG.below hb) hw) ?_
      simp only [Act.put, List.setIfInBounds_toArray, List.set_cons_zero, List.set_cons_succ, Nat.reduceAdd]
      refine kept_val _ (fun _ => rfl) (fun ρ w hw => by go_simp; first | done | with_reducible rfl) ?_
      simp only [Act.put, List.setIfInBounds_toArray, List.set_cons_zero, List.set_cons_succ, Nat.reduceAdd]
      refine kept_box (fun b => .slice (some ⟨b, 0, none⟩) 1 1) _ rfl (fun _ => rfl) (fun ρ w hw => by go_simp; first | done | with_reducible rfl) ?_
      simp only [Act.put, List.setIfInBounds_toArray, List.set_cons_zero, List.set_cons_succ, Nat.reduceAdd]
      intro ρ w5 hF
      dsimp only
      have hh6 := (hF.box 13 _ _ rfl).2
      generalize ρ 13 = b6 at *
      have hbF := hF.below
      have HO5 := own_belowM HO.out hbF
      clear hF p0 p1 HO
      refine wpList_append_own _ rfl _ _ 35 rfl w.heap.size 25 i0 (.agg #[.string ⟨#[]⟩, .string ⟨#[]⟩]) 2 32 Tryz.underlying35 hi hz0 hz1 hz2 rfl (by decide) _ _ _ rfl HO5 ⟨b6, 0, none⟩ 1 1 [.string ⟨t.cur.toArray⟩, .string ⟨C.toArray⟩] rfl ?c0 ?c1 ?c2 ?c3 ?c4 ?c5 ?_
      case c0 => rfl
      case c1 =>
        intro j u hu
        rw [Lib.add_plain, Nat.zero_add, blk_cell hh6, ← Array.getElem?_toList]; exact hu
      case c2 => intro u hu; simp at hu; rcases hu with rfl | rfl <;> rfl
      case c3 => unfold maxLen; omega
      case c4 => omega
      case c5 => have := hbF.size; omega
      intro v' w6 hown hgrow _
      obtain ⟨g6, cp6, rfl⟩ := ownsRow_succ hown
      have hb6 := Below.grown (bto hb hbF) hgrow (by have := hbF.size; omega) (fun j ej => own_ge HO5 j ej)
      have HO6 : Hid (w6.ownsRow w.heap.size 25 2 (.slice (some ⟨g6, 0, none⟩) (k + 1) cp6) (k + 1) (rowsM ((xs.take (k + 1)).map negM))) := by
        show World.ownsRow _ _ _ _ _ _ _
        rw [HR.out, rows_snoc]; exact hown
      clear hown hgrow HO5 hh6 hbF hb HR
      go_wp2
      go_roundw
      case rel => exact ⟨k + 1, _, cp6, by omega, by go_num, rfl, HO6.out, hb6⟩
      case measure => simp [intOf]; omega
    · have htk : xs.take k = xs := List.take_of_length_le (by rw [HX.out.len]; omega)
      have hown := HO.out
      rw [htk] at hown
      obtain ⟨Bz, cz, hBz, hcz, hmz⟩ := own_mon hown (by rw [List.length_map, HX.out.len]; omega)
      injection hBz with b1 b2 b3
      subst b1 b3
      have HM := Lib.hid hmz
      clear hmz hown HO htk
      go_wp2
      go_ret2
      exact ⟨B, k, cp, by rw [HV.out]; rfl, by rw [HV.out]; exact (List.length_map _).trans (by rw [HX.out.len]; omega), hcz, by rw [HV.out]; exact HM.out, hb⟩

end Go.Proofs.YtdjjlbfleibhjaaGreatDoor
namespace Go.Proofs.YtdjjlbfleibhjaaGreatDoor
open Go.RowKit Num
theorem isDig_iff (c : UInt8) : isDig c = true ↔ 48 ≤ c.toNat ∧ c.toNat ≤ 57 := by simp [isDig]

set_option maxHeartbeats 1000000 in
set_option maxRecDepth 100000 in
theorem dDigits {l : List UInt8} (hl : l.length ≤ 1000000) : Ret 89 #[.string ⟨l.toArray⟩] (.bool (isD l)) := fun w hG => by
  have hb := Below.refl w.heap.size w
  have HN : Hid (l.all isDig = false → isD l = false) := by intro h; unfold isD; rw [h, Bool.and_false]
  go_enter Tryz.func89, Tryz.ntmps89
  go_wp2_with fail
  go_loop [6] (fun iv => ∃ k : Nat, k ≤ l.length ∧ iv = .int .i64 (k : Int) ∧ Hid ((l.take k).all isDig = true)) (fun iv => l.length - (intOf iv).toNat)
  case atStart => exact ⟨0, Nat.zero_le _, rfl, rfl⟩
  case round =>
    obtain ⟨k, hk, rfl, HK⟩ := hrel
    by_cases hlt : k < l.length
    · have hlt' : k < (⟨l.toArray⟩ : ByteArray).size := by show k < l.toArray.size; simpa using hlt
      obtain ⟨x, hx⟩ : ∃ x, x = (⟨l.toArray⟩ : ByteArray)[k] := ⟨_, rfl⟩
      have hxl : l[k]? = some x := by rw [hx]; simp [hlt]; rfl
      have HX := Lib.hid hxl
      clear hxl
      have hx2 : ∀ hp, (⟨l.toArray⟩ : ByteArray)[k]'hp = x := fun _ => hx.symm
      clear hx
      by_cases d1 : (x.toNat : Int) < 48
      · have ed1 : decide ((x.toNat : Int) < 48) = true := decide_eq_true d1
        go_wp2
        go_ret
        exact ⟨retb (HN.out (all_no' HX.out (not_true_b (fun h => by have := (isDig_iff _).1 h; omega)))).symm, hb⟩
      · have ed1 : decide ((x.toNat : Int) < 48) = false := decide_eq_false d1
        by_cases d2 : 57 < (x.toNat : Int)
        · have ed2 : decide (57 < (x.toNat : Int)) = true := decide_eq_true d2
          go_wp2
          go_ret
          exact ⟨retb (HN.out (all_no' HX.out (not_true_b (fun h => by have := (isDig_iff _).1 h; omega)))).symm, hb⟩
        · have ed2 : decide (57 < (x.toNat : Int)) = false := decide_eq_false d2
          go_wp2
          go_round
          case rel => exact ⟨k + 1, by omega, by go_num, all_snoc' HK.out HX.out ((isDig_iff _).2 (by omega))⟩
          case measure => simp [intOf]; omega
    · have HK' : Hid (l.all isDig = true) := by have := HK.out; rw [List.take_of_length_le (by omega)] at this; exact this
      clear HK
      by_cases h0 : l = []
      · have e0 : (l == []) = true := by rw [beq_iff_eq]; exact h0
        have e1 : l.isEmpty = true := by rw [List.isEmpty_iff]; exact h0
        have HV : Hid (isD l = false) := by show _ = _; rw [h0]; rfl
        clear h0
        go_wp2
        go_ret
        exact ⟨retb HV.out.symm, hb⟩
      · have e0 : (l == []) = false := by rw [beq_eq_false_iff_ne]; exact h0
        have e1 : l.isEmpty = false := by rw [List.isEmpty_eq_false_iff]; exact h0
        have HV := Lib.hid ((isD_iff l).2 ⟨h0, HK'.out⟩)
        clear h0
        go_wp2
        go_ret
        exact ⟨retb HV.out.symm, hb⟩
set_option maxHeartbeats 1000000 in
set_option maxRecDepth 100000 in
theorem eDigits {l : List UInt8} (hl : l.length ≤ 1000000) : Ret 203 #[.string ⟨l.toArray⟩] (.bool (isD l)) := fun w hG => by
  have hb := Below.refl w.heap.size w
  have HN : Hid (l.all isDig = false → isD l = false) := by intro h; unfold isD; rw [h, Bool.and_false]
  go_enter Tryz.func203, Tryz.ntmps203
  go_wp2_with fail
  go_loop [3] (fun iv => ∃ k : Nat, k ≤ l.length ∧ iv = .int .i64 (k : Int) ∧ Hid ((l.take k).all isDig = true)) (fun iv => l.length - (intOf iv).toNat)
  case atStart => exact ⟨0, Nat.zero_le _, rfl, rfl⟩
  case round =>
    obtain ⟨k, hk, rfl, HK⟩ := hrel
    by_cases hlt : k < l.length
    · have hlt' : k < (⟨l.toArray⟩ : ByteArray).size := by show k < l.toArray.size; simpa using hlt
      obtain ⟨x, hx⟩ : ∃ x, x = (⟨l.toArray⟩ : ByteArray)[k] := ⟨_, rfl⟩
      have hxl : l[k]? = some x := by rw [hx]; simp [hlt]; rfl
      have HX := Lib.hid hxl
      clear hxl
      have hx2 : ∀ hp, (⟨l.toArray⟩ : ByteArray)[k]'hp = x := fun _ => hx.symm
      clear hx
      by_cases d1 : (x.toNat : Int) < 48
      · have ed1 : decide ((x.toNat : Int) < 48) = true := decide_eq_true d1
        go_wp2
        go_ret
        exact ⟨retb (HN.out (all_no' HX.out (not_true_b (fun h => by have := (isDig_iff _).1 h; omega)))).symm, hb⟩
      · have ed1 : decide ((x.toNat : Int) < 48) = false := decide_eq_false d1
        by_cases d2 : 57 < (x.toNat : Int)
        · have ed2 : decide (57 < (x.toNat : Int)) = true := decide_eq_true d2
          go_wp2
          go_ret
          exact ⟨retb (HN.out (all_no' HX.out (not_true_b (fun h => by have := (isDig_iff _).1 h; omega)))).symm, hb⟩
        · have ed2 : decide (57 < (x.toNat : Int)) = false := decide_eq_false d2
          go_wp2
          go_round
          case rel => exact ⟨k + 1, by omega, by go_num, all_snoc' HK.out HX.out ((isDig_iff _).2 (by omega))⟩
          case measure => simp [intOf]; omega
    · have HK' : Hid (l.all isDig = true) := by have := HK.out; rw [List.take_of_length_le (by omega)] at this; exact this
      clear HK
      by_cases h0 : l = []
      · have e0 : decide (0 < l.length) = false := decide_eq_false (by rw [h0]; decide)
        have e1 : ¬ 0 < l.length := by rw [h0]; decide
        have HV : Hid (isD l = false) := by show _ = _; rw [h0]; rfl
        clear h0
        go_wp2
        go_ret
        exact ⟨by rw [HV.out]; first | rfl | simp_all, hb⟩
      · have e1 : 0 < l.length := List.length_pos_iff.2 h0
        have e0 : decide (0 < l.length) = true := decide_eq_true e1
        have HV := Lib.hid ((isD_iff l).2 ⟨h0, HK'.out⟩)
        clear h0
        go_wp2
        go_ret
        exact ⟨by rw [HV.out]; first | rfl | simp_all, hb⟩
set_option maxHeartbeats 1000000 in
set_option maxRecDepth 100000 in
theorem dPlaces {n : Int} (h0 : 0 ≤ n) (h12 : n ≤ 12) : Ret 138 #[.int .i64 n] (.int .i64 0) := fun w hG => by
  have hb := Below.refl w.heap.size w
  have e1 : decide (n < 0) = false := decide_eq_false (by omega)
  have e2 : decide (12 < n) = false := decide_eq_false (by omega)
  go_enter Tryz.func138, Tryz.ntmps138
  go_wp2
  go_ret
  exact ⟨rfl, hb⟩
theorem ten_val (p : Nat) : val [49, 48] ^ p = ((10 ^ p : Nat) : Int) := by
  have : val [49, 48] = ((10 : Nat) : Int) := by decide
  rw [this, ← Int.natCast_pow]
theorem tenQ_int (p : Nat) : tenQ p = (((10 ^ p : Nat) : Int) : Rat) := rfl
theorem bd_ten (p : Nat) : Bd (p + 1) (tenQ p) := bd_int (by rw [Int.natAbs_natCast]; exact Nat.pow_lt_pow_right (by decide) (by omega)) (by omega)
set_option maxHeartbeats 2000000 in
set_option maxRecDepth 100000 in
theorem dShift {l l' : List UInt8} {q : Rat} (h : IsQ l l' q) {p : Nat} (hp : p ≤ 12) {r : Rat} (e : q * tenQ p = r) : Ret 145 #[(Value.agg #[Value.string ⟨List.toArray l⟩, Value.string ⟨List.toArray l'⟩]), .int .i64 (p : Int)] (Value.agg #[Value.string ⟨List.toArray (fN r)⟩, Value.string ⟨List.toArray (fD r)⟩]) := fun w hG => by
  have c1 := riPower (l := [49, 48]) (by decide) (n := p) (by omega) (ten_val p)
  have hlen : ((10 ^ p : Nat) : Int).natAbs < 10 ^ (p + 1) := by rw [Int.natAbs_natCast]; exact Nat.pow_lt_pow_right (by decide) (by omega)
  have c2 := rOf (l := canon ((10 ^ p : Nat) : Int)) (canon_len_of hlen (by omega)) (val_canon _)
  rw [← tenQ_int] at c2
  have c3 := rMul h (isq_fr (bd_ten p) (by omega)) e
  generalize fN (tenQ p) = M at *
  generalize fD (tenQ p) = E at *
  generalize canon ((10 ^ p : Nat) : Int) = T at *
  generalize fN r = N at *
  generalize fD r = D at *
  have C1 := Lib.hid c1
  have C2 := Lib.hid c2
  have C3 := Lib.hid c3
  have x2 := (FBox.new w (.string ⟨l.toArray⟩) (.string ⟨l'.toArray⟩) 42)
  have hb0 := below_alloc w (.cells #[.string ⟨l.toArray⟩, .string ⟨l'.toArray⟩] 42)
  have hsz : (w.alloc (.cells #[.string ⟨l.toArray⟩, .string ⟨l'.toArray⟩] 42)).heap.size = w.heap.size + 1 := World.size_alloc _ _
  have hlt := x2.lt
  obtain ⟨w0, hw0⟩ : ∃ w0, w0 = w.alloc (.cells #[.string ⟨l.toArray⟩, .string ⟨l'.toArray⟩] 42) := ⟨_, rfl⟩
  rw [← hw0] at x2 hb0 hsz hlt
  have hb1 := below_alloc w0 (.cells #[.string ⟨#[]⟩, .string ⟨#[]⟩] 42)
  have hbx := heap_alloc_new w0 (.cells #[.string ⟨#[]⟩, .string ⟨#[]⟩] 42)
  have HW := Lib.hid hw0
  have hsz2 : w.heap.size + 1 = w0.heap.size := hsz.symm
  clear c1 c2 c3 e hlen hsz h hw0
  go_enter Tryz.func145, Tryz.ntmps145
  go_wp2_with fail
  rw [← HW.out]
  ((with_reducible refine (C1.out.of hG (bto hb0 hb1)).mono ?_); rintro e w1 ⟨rfl, hb2⟩)
  have hbr : w1.heap[w0.heap.size]? = some (.cells #[.string ⟨#[]⟩, .string ⟨#[]⟩] 42 (0, 0)) := (hb2.block _ (by rw [World.size_alloc]; omega)).trans hbx
  replace hb1 := bto hb1 hb2
  clear hb2 hbx
  go_wp2_with fail
  (try rw [hsz2])
  refine wp_region_kept_at 5 w0.heap.size 4 _ (by kernel_rfl) (by kernel_rfl) (by decide) hb1 (Nat.le_refl _) hbr rfl ?_
  simp only [Act.put, List.setIfInBounds_toArray, List.set_cons_zero, List.set_cons_succ]
  clear hbr hsz2
  refine kept_val _ (fun _ => rfl) (fun ρ w hw => by have q0 := (x2.below hw).c0; have q1 := (x2.below hw).c1; go_simp; first | done | with_reducible rfl) ?_
  simp only [Act.put, List.setIfInBounds_toArray, List.set_cons_zero, List.set_cons_succ, Nat.reduceAdd]
  refine kept_val _ (fun _ => rfl) (fun ρ w hw => by go_simp; first | done | with_reducible rfl) ?_
  simp only [Act.put, List.setIfInBounds_toArray, List.set_cons_zero, List.set_cons_succ, Nat.reduceAdd]
  refine kept_call _ _ _ (fun _ => rfl) (fun ρ w hw => by go_simp; first | done | with_reducible rfl) (fun w hw => C2.out.of hG (bto hb0 hw)) ?_
  simp only [Act.put, List.setIfInBounds_toArray, List.set_cons_zero, List.set_cons_succ, Nat.reduceAdd]
  refine kept_call _ _ _ (fun _ => rfl) (fun ρ w hw => by go_simp; first | done | with_reducible rfl) (fun w hw => C3.out.of hG (bto hb0 hw)) ?_
  simp only [Act.put, List.setIfInBounds_toArray, List.set_cons_zero, List.set_cons_succ, Nat.reduceAdd]
  refine kept_putK 5 _ _ _ _ _ rfl rfl (fun _ => rfl) (fun ρ w hw q0 q1 q2 q3 => by go_simp; first | done | with_reducible rfl) ?_
  simp only [Act.put, Nat.reduceAdd]
  refine kept_end (fun ρ w3 hF => ?_)
  have hb := bto hb0 hF.below
  have x4 := FBox.ofB (hF.box 5 _ _ rfl).2
  generalize ρ 5 = b4 at *
  clear hF
  have d0 := x4.c0
  have d1 := x4.c1
  go_wp2
  refine bodyPost_ret (v := .agg #[.string ⟨N.toArray⟩, .string ⟨D.toArray⟩]) (by simp [results, Tryz.results145, go_sem, d0, d1]) rfl ?_
  exact ⟨rfl, hb⟩
end Go.Proofs.YtdjjlbfleibhjaaGreatDoor
namespace Go.Proofs.YtdjjlbfleibhjaaGreatDoor
open Go.RowKit Num
theorem wbyte_c (c : UInt8) (B b : Nat) (bs : List UInt8) (w : World) (h : Bld B b bs w) (hlen : bs.length ≤ 100000000000) (hBw : B ≤ w.heap.size) :
    Calls Tryz.prog 140 #[.pointer (some ⟨b, 0, none⟩), .int .u8 (c.toNat : Int)] w fun e w' => e = .returned .nilIface ∧ Bld B b (bs ++ [c]) w' ∧ Below B w w' := by
  refine (Tryz.Builder_WriteByte B b (Lib.byteCells bs) (c.toNat : Int) w h (by rw [Lib.byteCells_length]; omega) hBw).mono ?_
  rintro e w' ⟨rfl, h1, h2⟩
  refine ⟨rfl, .inr ?_, h2⟩
  have : Lib.byteCells (bs ++ [c]) = Lib.byteCells bs ++ [.int .u8 (c.toNat : Int)] := by simp [Lib.byteCells]
  rw [this]; exact h1
theorem rRepeat (z : Int) (c : Nat) (hz : z = c) (hc : c ≤ 1000) : Ret 92 #[.string ⟨#[48]⟩, .int .i64 z] (.string ⟨(List.replicate c (48 : UInt8)).toArray⟩) := fun w _ => repeat_int z c w hz hc
set_option maxHeartbeats 1000000 in
set_option maxRecDepth 100000 in
theorem hPre_lite (l : List UInt8) (hl : l.length ≤ 1000000) : Ret 200 #[.string ⟨l.toArray⟩, .string ⟨#[45]⟩] (.bool (isNeg l)) := fun w hG => by
  have hb := Below.refl w.heap.size w
  cases l with
  | nil =>
    go_enter Tryz.func200, Tryz.ntmps200
    go_wp2
    go_ret
    exact ⟨rfl, hb⟩
  | cons a t =>
    have ht : t.length ≤ 1000000 := by simp at hl; omega
    have k4 : (⟨(a :: t).toArray⟩ : ByteArray).extract 0 1 = ⟨#[a]⟩ := by rw [extract_list]; rfl
    have hv : isNeg (a :: t) = (a == 45) := by unfold isNeg; simp
    rw [hv]
    by_cases ha : a = 45
    · subst ha
      go_enter Tryz.func200, Tryz.ntmps200
      go_wp2
      go_ret
      exact ⟨rfl, hb⟩
    · have e1 : (a == 45) = false := by rw [beq_eq_false_iff_ne]; exact ha
      have e2 : ([a] == [45]) = false := by rw [beq_eq_false_iff_ne]; simpa using ha
      go_enter Tryz.func200, Tryz.ntmps200
      go_wp2
      go_ret
      exact ⟨by rw [e1]; first | done | rfl, hb⟩
theorem hPre (l : List UInt8) (hl : l.length ≤ 1000000) : Ret 139 #[.string ⟨l.toArray⟩, .string ⟨#[45]⟩] (.bool (isNeg l)) := fun w hG => by
  have c1 := hPre_lite l hl
  have hb := Below.refl w.heap.size w
  go_enter Tryz.func139, Tryz.ntmps139
  go_wp2_with fail
  ((with_reducible refine (c1.of hG hb).mono ?_); rintro e w2 ⟨rfl, hb2⟩)
  go_wp2
  go_ret
  exact ⟨rfl, bto hb hb2⟩
set_option maxHeartbeats 2000000 in
set_option maxRecDepth 100000 in
theorem dText_n0 {l : List UInt8} (hl : l.length ≤ 1000) {z : Int} (e : val l = z) {p : Nat} (hp : p = 0) (hp2 : p ≤ 12) (hz : z < 0) : Ret 74 #[.string ⟨l.toArray⟩, .int .i64 (p : Int)] (.tuple #[.string ⟨(textD z p).toArray⟩, .int .i64 0]) := fun w hG => by
  have c1 := dPlaces (n := (p : Int)) (by omega) (by omega)
  have c2 := riCanonical (l := l) (by omega) e
  have hcz : canon z = 45 :: dec z.natAbs := by unfold canon; rw [if_pos hz]
  have hD : (dec z.natAbs).length ≤ 1000 := Nat.le_trans (Num.dec_len_le _ _ (by rw [← e]; exact val_lt l)) hl
  have hd := dec_digs z.natAbs
  have HT : Hid (∀ Z, Z = zpad (p + 1) (dec z.natAbs) → textD z p = [45] ++ (Z.take (Z.length - p) ++ [])) := by
    rintro Z rfl; unfold textD sgnT tW tP; rw [if_pos hz, if_pos hp]
  rw [hcz] at c2
  obtain ⟨D, hDe⟩ : ∃ D, D = dec z.natAbs := ⟨_, rfl⟩
  rw [← hDe] at c2 hD hd HT
  have hneg : isNeg (45 :: D) = true := rfl
  have c3 := hPre (45 :: D) (by simp; omega)
  rw [hneg] at c3
  have hadd := str_add (List.replicate (p + 1 - D.length) 48) D (by simp; omega) (by omega)
  have c4 := rRepeat (max 0 ((p : Int) + 1 - (D.length : Int))) (p + 1 - D.length) (by omega) (by omega)
  obtain ⟨Z, hZ⟩ : ∃ Z, Z = List.replicate (p + 1 - D.length) 48 ++ D := ⟨_, rfl⟩
  rw [← hZ] at hadd
  have hZl : Z.length = max (p + 1) D.length := by rw [hZ]; exact zpad_len _ _
  have HV := Lib.hid (HT.out Z hZ)
  have hz1 : Z.length ≤ 2000 := by omega
  have hz2 : p + 1 ≤ Z.length := by omega
  have kx : (⟨Z.toArray⟩ : ByteArray).extract 0 (Z.length - p) = ⟨(Z.take (Z.length - p)).toArray⟩ := by rw [extract_list]; simp
  have ky : (⟨Z.toArray⟩ : ByteArray).extract (Z.length - p) Z.length = ⟨(Z.drop (Z.length - p)).toArray⟩ := by rw [extract_list]; simp
  have kx' : (⟨Z.toArray⟩ : ByteArray).extract 0 ((Z.length : Int) - (p : Int)).toNat = ⟨(Z.take (Z.length - p)).toArray⟩ := by rw [show ((Z.length : Int) - (p : Int)).toNat = Z.length - p by omega]; exact kx
  have ky' : (⟨Z.toArray⟩ : ByteArray).extract ((Z.length : Int) - (p : Int)).toNat Z.length = ⟨(Z.drop (Z.length - p)).toArray⟩ := by rw [show ((Z.length : Int) - (p : Int)).toNat = Z.length - p by omega]; exact ky
  have hA : (Z.take (Z.length - p)).length ≤ 2000 := by rw [List.length_take]; omega
  have hB : (Z.drop (Z.length - p)).length ≤ 2000 := by rw [List.length_drop]; omega
  generalize Z.take (Z.length - p) = ZA at *
  generalize Z.drop (Z.length - p) = ZB at *
  have k4 : (⟨(45 :: D).toArray⟩ : ByteArray).extract 1 (D.length + 1) = ⟨D.toArray⟩ := by rw [extract_list]; simp
  have k9 : ¬ 0 < p := by omega
  have e0 : decide (0 < (p : Int)) = false := decide_eq_false (by omega)
  have C1 := Lib.hid c1
  have C2 := Lib.hid c2
  have C3 := Lib.hid c3
  have C4 := Lib.hid c4
  have hb := Below.refl w.heap.size w
  clear c1 c2 c3 c4 hcz hd HT hDe hneg hZ hZl e hz hp hl
  generalize List.replicate (p + 1 - D.length) (48 : UInt8) = Rp at *
  go_enter Tryz.func74, Tryz.ntmps74
  go_wp2_with fail
  ((with_reducible refine (C1.out.of hG hb).mono ?_); rintro e w1 ⟨rfl, hb1⟩)
  replace hb := bto hb hb1
  clear hb1
  go_wp2_with fail
  ((with_reducible refine (C2.out.of hG hb).mono ?_); rintro e w2 ⟨rfl, hb2⟩)
  replace hb := bto hb hb2
  have hbd := bld_new w2
  have hw2 : w.heap.size ≤ w2.heap.size := hb.size
  have hb8 := below_alloc w2 (.cells #[.pointer none, .slice none 0 0] 145)
  have hs2 : w2.heap.size ≤ (w2.alloc (.cells #[.pointer none, .slice none 0 0] 145)).heap.size := hb8.size
  replace hb := bto hb hb8
  clear hb2 hb8
  go_wp2_with fail
  ((with_reducible refine (C3.out.of hG hb).mono ?_); rintro e w3 ⟨rfl, hb3⟩)
  replace hb := bto hb hb3
  replace hbd := hbd.below hb3
  have hs3 := Nat.le_trans hs2 hb3.size
  generalize w2.heap.size = n8 at *
  clear hb3 hs2 C1 C2 C3
  go_wp2_with fail
  (refine (wbyte_c 45 _ _ _ _ hbd (by simp) hs3).mono ?_; rintro e w4 ⟨rfl, hbd4, hb4⟩)
  replace hbd := hbd4
  replace hb := hb.trans (hb4.mono hw2)
  replace hs3 := Nat.le_trans hs3 hb4.size
  clear hbd4 hb4
  go_wp2_with fail
  ((with_reducible refine (C4.out.of hG hb).mono ?_); rintro e w5 ⟨rfl, hb5⟩)
  replace hbd := hbd.below hb5
  replace hb := bto hb hb5
  replace hs3 := Nat.le_trans hs3 hb5.size
  clear hb5
  go_wp2_with fail
  (refine (wstr_any _ _ _ _ _ hbd (by simp) (by omega) hs3).mono ?_; rintro e w6 ⟨rfl, hbd6, hb6⟩)
  replace hbd := hbd6
  replace hb := hb.trans (hb6.mono hw2)
  replace hs3 := Nat.le_trans hs3 hb6.size
  clear hbd6 hb6
  go_wp2_with fail
  (refine (bstring_any _ _ _ _ hbd hs3).mono ?_; rintro e w9 ⟨rfl, hb9⟩)
  replace hb := hb.trans (hb9.mono hw2)
  go_wp2
  go_ret2
  exact ⟨by rw [HV.out]; simp; first | done | rfl, hb⟩
set_option maxHeartbeats 2000000 in
set_option maxRecDepth 100000 in
theorem dText_n1 {l : List UInt8} (hl : l.length ≤ 1000) {z : Int} (e : val l = z) {p : Nat} (hp : 0 < p) (hp2 : p ≤ 12) (hz : z < 0) : Ret 74 #[.string ⟨l.toArray⟩, .int .i64 (p : Int)] (.tuple #[.string ⟨(textD z p).toArray⟩, .int .i64 0]) := fun w hG => by
  have c1 := dPlaces (n := (p : Int)) (by omega) (by omega)
  have c2 := riCanonical (l := l) (by omega) e
  have hcz : canon z = 45 :: dec z.natAbs := by unfold canon; rw [if_pos hz]
  have hD : (dec z.natAbs).length ≤ 1000 := Nat.le_trans (Num.dec_len_le _ _ (by rw [← e]; exact val_lt l)) hl
  have hd := dec_digs z.natAbs
  have HT : Hid (∀ Z, Z = zpad (p + 1) (dec z.natAbs) → textD z p = [45] ++ (Z.take (Z.length - p) ++ 46 :: Z.drop (Z.length - p))) := by
    rintro Z rfl; unfold textD sgnT tW tP; rw [if_pos hz, if_neg (by omega)]
  rw [hcz] at c2
  obtain ⟨D, hDe⟩ : ∃ D, D = dec z.natAbs := ⟨_, rfl⟩
  rw [← hDe] at c2 hD hd HT
  have hneg : isNeg (45 :: D) = true := rfl
  have c3 := hPre (45 :: D) (by simp; omega)
  rw [hneg] at c3
  have hadd := str_add (List.replicate (p + 1 - D.length) 48) D (by simp; omega) (by omega)
  have c4 := rRepeat (max 0 ((p : Int) + 1 - (D.length : Int))) (p + 1 - D.length) (by omega) (by omega)
  obtain ⟨Z, hZ⟩ : ∃ Z, Z = List.replicate (p + 1 - D.length) 48 ++ D := ⟨_, rfl⟩
  rw [← hZ] at hadd
  have hZl : Z.length = max (p + 1) D.length := by rw [hZ]; exact zpad_len _ _
  have HV := Lib.hid (HT.out Z hZ)
  have hz1 : Z.length ≤ 2000 := by omega
  have hz2 : p + 1 ≤ Z.length := by omega
  have kx : (⟨Z.toArray⟩ : ByteArray).extract 0 (Z.length - p) = ⟨(Z.take (Z.length - p)).toArray⟩ := by rw [extract_list]; simp
  have ky : (⟨Z.toArray⟩ : ByteArray).extract (Z.length - p) Z.length = ⟨(Z.drop (Z.length - p)).toArray⟩ := by rw [extract_list]; simp
  have kx' : (⟨Z.toArray⟩ : ByteArray).extract 0 ((Z.length : Int) - (p : Int)).toNat = ⟨(Z.take (Z.length - p)).toArray⟩ := by rw [show ((Z.length : Int) - (p : Int)).toNat = Z.length - p by omega]; exact kx
  have ky' : (⟨Z.toArray⟩ : ByteArray).extract ((Z.length : Int) - (p : Int)).toNat Z.length = ⟨(Z.drop (Z.length - p)).toArray⟩ := by rw [show ((Z.length : Int) - (p : Int)).toNat = Z.length - p by omega]; exact ky
  have hA : (Z.take (Z.length - p)).length ≤ 2000 := by rw [List.length_take]; omega
  have hB : (Z.drop (Z.length - p)).length ≤ 2000 := by rw [List.length_drop]; omega
  generalize Z.take (Z.length - p) = ZA at *
  generalize Z.drop (Z.length - p) = ZB at *
  have k4 : (⟨(45 :: D).toArray⟩ : ByteArray).extract 1 (D.length + 1) = ⟨D.toArray⟩ := by rw [extract_list]; simp
  have k9 : 0 < p := by omega
  have e0 : decide (0 < (p : Int)) = true := decide_eq_true (by omega)
  have C1 := Lib.hid c1
  have C2 := Lib.hid c2
  have C3 := Lib.hid c3
  have C4 := Lib.hid c4
  have hb := Below.refl w.heap.size w
  clear c1 c2 c3 c4 hcz hd HT hDe hneg hZ hZl e hz hp hl
  generalize List.replicate (p + 1 - D.length) (48 : UInt8) = Rp at *
  go_enter Tryz.func74, Tryz.ntmps74
  go_wp2_with fail
  ((with_reducible refine (C1.out.of hG hb).mono ?_); rintro e w1 ⟨rfl, hb1⟩)
  replace hb := bto hb hb1
  clear hb1
  go_wp2_with fail
  ((with_reducible refine (C2.out.of hG hb).mono ?_); rintro e w2 ⟨rfl, hb2⟩)
  replace hb := bto hb hb2
  have hbd := bld_new w2
  have hw2 : w.heap.size ≤ w2.heap.size := hb.size
  have hb8 := below_alloc w2 (.cells #[.pointer none, .slice none 0 0] 145)
  have hs2 : w2.heap.size ≤ (w2.alloc (.cells #[.pointer none, .slice none 0 0] 145)).heap.size := hb8.size
  replace hb := bto hb hb8
  clear hb2 hb8
  go_wp2_with fail
  ((with_reducible refine (C3.out.of hG hb).mono ?_); rintro e w3 ⟨rfl, hb3⟩)
  replace hb := bto hb hb3
  replace hbd := hbd.below hb3
  have hs3 := Nat.le_trans hs2 hb3.size
  generalize w2.heap.size = n8 at *
  clear hb3 hs2 C1 C2 C3
  go_wp2_with fail
  (refine (wbyte_c 45 _ _ _ _ hbd (by simp) hs3).mono ?_; rintro e w4 ⟨rfl, hbd4, hb4⟩)
  replace hbd := hbd4
  replace hb := hb.trans (hb4.mono hw2)
  replace hs3 := Nat.le_trans hs3 hb4.size
  clear hbd4 hb4
  go_wp2_with fail
  ((with_reducible refine (C4.out.of hG hb).mono ?_); rintro e w5 ⟨rfl, hb5⟩)
  replace hbd := hbd.below hb5
  replace hb := bto hb hb5
  replace hs3 := Nat.le_trans hs3 hb5.size
  clear hb5
  go_wp2_with fail
  (refine (wstr_any _ _ _ _ _ hbd (by simp) (by omega) hs3).mono ?_; rintro e w6 ⟨rfl, hbd6, hb6⟩)
  replace hbd := hbd6
  replace hb := hb.trans (hb6.mono hw2)
  replace hs3 := Nat.le_trans hs3 hb6.size
  clear hbd6 hb6
  go_wp2_with fail
  (refine (wbyte_c 46 _ _ _ _ hbd (by simp; omega) hs3).mono ?_; rintro e w7 ⟨rfl, hbd7, hb7⟩)
  replace hbd := hbd7
  replace hb := hb.trans (hb7.mono hw2)
  replace hs3 := Nat.le_trans hs3 hb7.size
  clear hbd7 hb7
  go_wp2_with fail
  (refine (wstr_any _ _ _ _ _ hbd (by simp; omega) (by omega) hs3).mono ?_; rintro e w8 ⟨rfl, hbd8, hb8⟩)
  replace hbd := hbd8
  replace hb := hb.trans (hb8.mono hw2)
  replace hs3 := Nat.le_trans hs3 hb8.size
  clear hbd8 hb8
  go_wp2_with fail
  (refine (bstring_any _ _ _ _ hbd hs3).mono ?_; rintro e w9 ⟨rfl, hb9⟩)
  replace hb := hb.trans (hb9.mono hw2)
  go_wp2
  go_ret2
  exact ⟨by rw [HV.out]; simp; first | done | rfl, hb⟩
set_option maxHeartbeats 2000000 in
set_option maxRecDepth 100000 in
theorem dText_p0 {l : List UInt8} (hl : l.length ≤ 1000) {z : Int} (e : val l = z) {p : Nat} (hp : p = 0) (hp2 : p ≤ 12) (hz : ¬ z < 0) : Ret 74 #[.string ⟨l.toArray⟩, .int .i64 (p : Int)] (.tuple #[.string ⟨(textD z p).toArray⟩, .int .i64 0]) := fun w hG => by
  have c1 := dPlaces (n := (p : Int)) (by omega) (by omega)
  have c2 := riCanonical (l := l) (by omega) e
  have hcz : canon z = dec z.natAbs := by unfold canon; rw [if_neg hz]
  have hD : (dec z.natAbs).length ≤ 1000 := Nat.le_trans (Num.dec_len_le _ _ (by rw [← e]; exact val_lt l)) hl
  have hd := dec_digs z.natAbs
  have HT : Hid (∀ Z, Z = zpad (p + 1) (dec z.natAbs) → textD z p = [] ++ (Z.take (Z.length - p) ++ [])) := by
    rintro Z rfl; unfold textD sgnT tW tP; rw [if_neg hz, if_pos hp]
  rw [hcz] at c2
  obtain ⟨D, hDe⟩ : ∃ D, D = dec z.natAbs := ⟨_, rfl⟩
  rw [← hDe] at c2 hD hd HT
  have hneg : isNeg D = false := no45_head hd
  have c3 := hPre D (by omega)
  rw [hneg] at c3
  have hadd := str_add (List.replicate (p + 1 - D.length) 48) D (by simp; omega) (by omega)
  have c4 := rRepeat (max 0 ((p : Int) + 1 - (D.length : Int))) (p + 1 - D.length) (by omega) (by omega)
  obtain ⟨Z, hZ⟩ : ∃ Z, Z = List.replicate (p + 1 - D.length) 48 ++ D := ⟨_, rfl⟩
  rw [← hZ] at hadd
  have hZl : Z.length = max (p + 1) D.length := by rw [hZ]; exact zpad_len _ _
  have HV := Lib.hid (HT.out Z hZ)
  have hz1 : Z.length ≤ 2000 := by omega
  have hz2 : p + 1 ≤ Z.length := by omega
  have kx : (⟨Z.toArray⟩ : ByteArray).extract 0 (Z.length - p) = ⟨(Z.take (Z.length - p)).toArray⟩ := by rw [extract_list]; simp
  have ky : (⟨Z.toArray⟩ : ByteArray).extract (Z.length - p) Z.length = ⟨(Z.drop (Z.length - p)).toArray⟩ := by rw [extract_list]; simp
  have kx' : (⟨Z.toArray⟩ : ByteArray).extract 0 ((Z.length : Int) - (p : Int)).toNat = ⟨(Z.take (Z.length - p)).toArray⟩ := by rw [show ((Z.length : Int) - (p : Int)).toNat = Z.length - p by omega]; exact kx
  have ky' : (⟨Z.toArray⟩ : ByteArray).extract ((Z.length : Int) - (p : Int)).toNat Z.length = ⟨(Z.drop (Z.length - p)).toArray⟩ := by rw [show ((Z.length : Int) - (p : Int)).toNat = Z.length - p by omega]; exact ky
  have hA : (Z.take (Z.length - p)).length ≤ 2000 := by rw [List.length_take]; omega
  have hB : (Z.drop (Z.length - p)).length ≤ 2000 := by rw [List.length_drop]; omega
  generalize Z.take (Z.length - p) = ZA at *
  generalize Z.drop (Z.length - p) = ZB at *

  have k9 : ¬ 0 < p := by omega
  have e0 : decide (0 < (p : Int)) = false := decide_eq_false (by omega)
  have C1 := Lib.hid c1
  have C2 := Lib.hid c2
  have C3 := Lib.hid c3
  have C4 := Lib.hid c4
  have hb := Below.refl w.heap.size w
  clear c1 c2 c3 c4 hcz hd HT hDe hneg hZ hZl e hz hp hl
  generalize List.replicate (p + 1 - D.length) (48 : UInt8) = Rp at *
  go_enter Tryz.func74, Tryz.ntmps74
  go_wp2_with fail
  ((with_reducible refine (C1.out.of hG hb).mono ?_); rintro e w1 ⟨rfl, hb1⟩)
  replace hb := bto hb hb1
  clear hb1
  go_wp2_with fail
  ((with_reducible refine (C2.out.of hG hb).mono ?_); rintro e w2 ⟨rfl, hb2⟩)
  replace hb := bto hb hb2
  have hbd := bld_new w2
  have hw2 : w.heap.size ≤ w2.heap.size := hb.size
  have hb8 := below_alloc w2 (.cells #[.pointer none, .slice none 0 0] 145)
  have hs2 : w2.heap.size ≤ (w2.alloc (.cells #[.pointer none, .slice none 0 0] 145)).heap.size := hb8.size
  replace hb := bto hb hb8
  clear hb2 hb8
  go_wp2_with fail
  ((with_reducible refine (C3.out.of hG hb).mono ?_); rintro e w3 ⟨rfl, hb3⟩)
  replace hb := bto hb hb3
  replace hbd := hbd.below hb3
  have hs3 := Nat.le_trans hs2 hb3.size
  generalize w2.heap.size = n8 at *
  clear hb3 hs2 C1 C2 C3
  go_wp2_with fail
  ((with_reducible refine (C4.out.of hG hb).mono ?_); rintro e w5 ⟨rfl, hb5⟩)
  replace hbd := hbd.below hb5
  replace hb := bto hb hb5
  replace hs3 := Nat.le_trans hs3 hb5.size
  clear hb5
  go_wp2_with fail
  (refine (wstr_any _ _ _ _ _ hbd (by simp) (by omega) hs3).mono ?_; rintro e w6 ⟨rfl, hbd6, hb6⟩)
  replace hbd := hbd6
  replace hb := hb.trans (hb6.mono hw2)
  replace hs3 := Nat.le_trans hs3 hb6.size
  clear hbd6 hb6
  go_wp2_with fail
  (refine (bstring_any _ _ _ _ hbd hs3).mono ?_; rintro e w9 ⟨rfl, hb9⟩)
  replace hb := hb.trans (hb9.mono hw2)
  go_wp2
  go_ret2
  exact ⟨by rw [HV.out]; simp; first | done | rfl, hb⟩
set_option maxHeartbeats 2000000 in
set_option maxRecDepth 100000 in
theorem dText_p1 {l : List UInt8} (hl : l.length ≤ 1000) {z : Int} (e : val l = z) {p : Nat} (hp : 0 < p) (hp2 : p ≤ 12) (hz : ¬ z < 0) : Ret 74 #[.string ⟨l.toArray⟩, .int .i64 (p : Int)] (.tuple #[.string ⟨(textD z p).toArray⟩, .int .i64 0]) := fun w hG => by
  have c1 := dPlaces (n := (p : Int)) (by omega) (by omega)
  have c2 := riCanonical (l := l) (by omega) e
  have hcz : canon z = dec z.natAbs := by unfold canon; rw [if_neg hz]
  have hD : (dec z.natAbs).length ≤ 1000 := Nat.le_trans (Num.dec_len_le _ _ (by rw [← e]; exact val_lt l)) hl
  have hd := dec_digs z.natAbs
  have HT : Hid (∀ Z, Z = zpad (p + 1) (dec z.natAbs) → textD z p = [] ++ (Z.take (Z.length - p) ++ 46 :: Z.drop (Z.length - p))) := by
    rintro Z rfl; unfold textD sgnT tW tP; rw [if_neg hz, if_neg (by omega)]
  rw [hcz] at c2
  obtain ⟨D, hDe⟩ : ∃ D, D = dec z.natAbs := ⟨_, rfl⟩
  rw [← hDe] at c2 hD hd HT
  have hneg : isNeg D = false := no45_head hd
  have c3 := hPre D (by omega)
  rw [hneg] at c3
  have hadd := str_add (List.replicate (p + 1 - D.length) 48) D (by simp; omega) (by omega)
  have c4 := rRepeat (max 0 ((p : Int) + 1 - (D.length : Int))) (p + 1 - D.length) (by omega) (by omega)
  obtain ⟨Z, hZ⟩ : ∃ Z, Z = List.replicate (p + 1 - D.length) 48 ++ D := ⟨_, rfl⟩
  rw [← hZ] at hadd
  have hZl : Z.length = max (p + 1) D.length := by rw [hZ]; exact zpad_len _ _
  have HV := Lib.hid (HT.out Z hZ)
  have hz1 : Z.length ≤ 2000 := by omega
  have hz2 : p + 1 ≤ Z.length := by omega
  have kx : (⟨Z.toArray⟩ : ByteArray).extract 0 (Z.length - p) = ⟨(Z.take (Z.length - p)).toArray⟩ := by rw [extract_list]; simp
  have ky : (⟨Z.toArray⟩ : ByteArray).extract (Z.length - p) Z.length = ⟨(Z.drop (Z.length - p)).toArray⟩ := by rw [extract_list]; simp
  have kx' : (⟨Z.toArray⟩ : ByteArray).extract 0 ((Z.length : Int) - (p : Int)).toNat = ⟨(Z.take (Z.length - p)).toArray⟩ := by rw [show ((Z.length : Int) - (p : Int)).toNat = Z.length - p by omega]; exact kx
  have ky' : (⟨Z.toArray⟩ : ByteArray).extract ((Z.length : Int) - (p : Int)).toNat Z.length = ⟨(Z.drop (Z.length - p)).toArray⟩ := by rw [show ((Z.length : Int) - (p : Int)).toNat = Z.length - p by omega]; exact ky
  have hA : (Z.take (Z.length - p)).length ≤ 2000 := by rw [List.length_take]; omega
  have hB : (Z.drop (Z.length - p)).length ≤ 2000 := by rw [List.length_drop]; omega
  generalize Z.take (Z.length - p) = ZA at *
  generalize Z.drop (Z.length - p) = ZB at *

  have k9 : 0 < p := by omega
  have e0 : decide (0 < (p : Int)) = true := decide_eq_true (by omega)
  have C1 := Lib.hid c1
  have C2 := Lib.hid c2
  have C3 := Lib.hid c3
  have C4 := Lib.hid c4
  have hb := Below.refl w.heap.size w
  clear c1 c2 c3 c4 hcz hd HT hDe hneg hZ hZl e hz hp hl
  generalize List.replicate (p + 1 - D.length) (48 : UInt8) = Rp at *
  go_enter Tryz.func74, Tryz.ntmps74
  go_wp2_with fail
  ((with_reducible refine (C1.out.of hG hb).mono ?_); rintro e w1 ⟨rfl, hb1⟩)
  replace hb := bto hb hb1
  clear hb1
  go_wp2_with fail
  ((with_reducible refine (C2.out.of hG hb).mono ?_); rintro e w2 ⟨rfl, hb2⟩)
  replace hb := bto hb hb2
  have hbd := bld_new w2
  have hw2 : w.heap.size ≤ w2.heap.size := hb.size
  have hb8 := below_alloc w2 (.cells #[.pointer none, .slice none 0 0] 145)
  have hs2 : w2.heap.size ≤ (w2.alloc (.cells #[.pointer none, .slice none 0 0] 145)).heap.size := hb8.size
  replace hb := bto hb hb8
  clear hb2 hb8
  go_wp2_with fail
  ((with_reducible refine (C3.out.of hG hb).mono ?_); rintro e w3 ⟨rfl, hb3⟩)
  replace hb := bto hb hb3
  replace hbd := hbd.below hb3
  have hs3 := Nat.le_trans hs2 hb3.size
  generalize w2.heap.size = n8 at *
  clear hb3 hs2 C1 C2 C3
  go_wp2_with fail
  ((with_reducible refine (C4.out.of hG hb).mono ?_); rintro e w5 ⟨rfl, hb5⟩)
  replace hbd := hbd.below hb5
  replace hb := bto hb hb5
  replace hs3 := Nat.le_trans hs3 hb5.size
  clear hb5
  go_wp2_with fail
  (refine (wstr_any _ _ _ _ _ hbd (by simp) (by omega) hs3).mono ?_; rintro e w6 ⟨rfl, hbd6, hb6⟩)
  replace hbd := hbd6
  replace hb := hb.trans (hb6.mono hw2)
  replace hs3 := Nat.le_trans hs3 hb6.size
  clear hbd6 hb6
  go_wp2_with fail
  (refine (wbyte_c 46 _ _ _ _ hbd (by simp; omega) hs3).mono ?_; rintro e w7 ⟨rfl, hbd7, hb7⟩)
  replace hbd := hbd7
  replace hb := hb.trans (hb7.mono hw2)
  replace hs3 := Nat.le_trans hs3 hb7.size
  clear hbd7 hb7
  go_wp2_with fail
  (refine (wstr_any _ _ _ _ _ hbd (by simp; omega) (by omega) hs3).mono ?_; rintro e w8 ⟨rfl, hbd8, hb8⟩)
  replace hbd := hbd8
  replace hb := hb.trans (hb8.mono hw2)
  replace hs3 := Nat.le_trans hs3 hb8.size
  clear hbd8 hb8
  go_wp2_with fail
  (refine (bstring_any _ _ _ _ hbd hs3).mono ?_; rintro e w9 ⟨rfl, hb9⟩)
  replace hb := hb.trans (hb9.mono hw2)
  go_wp2
  go_ret2
  exact ⟨by rw [HV.out]; simp; first | done | rfl, hb⟩
theorem dText {l : List UInt8} (hl : l.length ≤ 1000) {z : Int} (e : val l = z) {p : Nat} (hp2 : p ≤ 12) : Ret 74 #[.string ⟨l.toArray⟩, .int .i64 (p : Int)] (.tuple #[.string ⟨(textD z p).toArray⟩, .int .i64 0]) := by
  by_cases hz : z < 0
  · rcases Nat.eq_zero_or_pos p with hp | hp
    · exact dText_n0 hl e hp hp2 hz
    · exact dText_n1 hl e hp hp2 hz
  · rcases Nat.eq_zero_or_pos p with hp | hp
    · exact dText_p0 hl e hp hp2 hz
    · exact dText_p1 hl e hp hp2 hz
end Go.Proofs.YtdjjlbfleibhjaaGreatDoor
