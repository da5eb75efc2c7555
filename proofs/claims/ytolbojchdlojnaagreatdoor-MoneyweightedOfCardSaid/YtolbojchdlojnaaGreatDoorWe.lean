/- The sums of the periods, one behind the other; their signs: package moneyweighted. -/
import Derived.Test.YtolbojchdlojnaaGreatDoorWc
import Derived.Test.YtolbojchdlojnaaGreatDoorPs
import Derived.Test.YtolbojchdlojnaaGreatDoorBs
namespace Go.Proofs.YtolbojchdlojnaaGreatDoor
open Go.RowKit Go.Shelf Num
attribute [local go_sem] Oper.semAt_some
section
variable {w : World} {b c l i : Nat} {v u : Value} {cs : Array Value} {ob : Obj}
theorem Blk.set1 (h : Blk w b #[v]) (u : Value) : Blk (w.setCell ⟨b, 0, none⟩ u) b #[u] := by
  obtain ⟨t, h⟩ := h
  refine ⟨t, ?_⟩
  obtain ⟨hlt, hk⟩ := Array.getElem?_eq_some_iff.1 h
  show (w.heap.modify b _)[b]? = _
  rw [Array.getElem?_eq_getElem (by rw [Array.size_modify]; exact hlt), Array.getElem_modify_self, hk]
  rfl
theorem Blk.setO (h : Blk w b cs) (hn : b ≠ c) : Blk (w.setCell ⟨c, i, none⟩ u) b cs := by
  obtain ⟨t, h⟩ := h
  exact ⟨t, (Below.heap_setCell w ⟨c, i, none⟩ u b hn).trans h⟩
theorem Blk.putO (h : Blk w b cs) (hn : b ≠ l) : Blk (w.putObj l ob) b cs := by
  obtain ⟨t, h⟩ := h
  exact ⟨t, (World.putObj_heap_other hn).trans h⟩
end
theorem below_put {w W : World} {l : Nat} {ob : Obj} (h : Below w.heap.size w W) (hl : w.heap.size ≤ l) : Below w.heap.size w (W.putObj l ob) :=
  h.trans ⟨rfl, rfl, rfl, by simp, fun k hk => World.putObj_heap_other (by omega)⟩
theorem sums_next {ps : List Pay} {k : Nat} {t : Pay} (ht : ps[k]? = some t) (z : Int) : sumsL z (pzs (ps.drop k)) = if (ps[k + 1]?).map (·.per) = some t.per then sumsL (z + val t.amt) (pzs (ps.drop (k + 1))) else if z + val t.amt = 0 then sumsL 0 (pzs (ps.drop (k + 1))) else (z + val t.amt) :: sumsL 0 (pzs (ps.drop (k + 1))) := by
  obtain ⟨hk, rfl⟩ := List.getElem?_eq_some_iff.1 ht
  have e : (pzs (ps.drop (k + 1))).head?.map (·.1) = (ps[k + 1]?).map (·.per) := by
    unfold pzs
    rw [List.head?_map, List.head?_drop]
    cases ps[k + 1]? <;> rfl
  rw [List.drop_eq_getElem_cons hk]
  show sumsL z ((ps[k].per, val ps[k].amt) :: pzs (ps.drop (k + 1))) = _
  rw [sumsL, e]
theorem sums_len : ∀ (l : List PZ) (s : Int), (sumsL s l).length ≤ l.length
  | [], _ => Nat.le_refl _
  | p :: r, s => by
    have h1 := sums_len r (s + p.2)
    have h2 := sums_len r 0
    unfold sumsL
    split
    · exact Nat.le_succ_of_le h1
    · split
      · exact Nat.le_succ_of_le h2
      · simpa using h2
theorem canon0 : canon 0 = [] := by decide +kernel
theorem canon_ne {z : Int} (h : z ≠ 0) : canon z ≠ [] := fun e => h (by rw [← val_canon z, e]; rfl)
theorem abs_step {z v : Int} {N k : Nat} (h : z.natAbs < 10 ^ (N + k)) (hv : v.natAbs < 10 ^ N) : (z + v).natAbs < 10 ^ (N + (k + 1)) := by
  have h1 : 10 ^ N ≤ 10 ^ (N + k) := Nat.pow_le_pow_right (by decide) (by omega)
  have h2 : 10 ^ (N + (k + 1)) = 10 ^ (N + k) * 10 := by rw [← Nat.pow_succ]; rfl
  generalize 10 ^ N = X at *
  generalize 10 ^ (N + k) = Y at *
  generalize 10 ^ (N + (k + 1)) = Z at *
  omega
theorem zero_pow {N : Nat} : (0 : Int).natAbs < 10 ^ N := Nat.pow_pos (by decide)
set_option maxRecDepth 100000 in
set_option maxHeartbeats 4000000 in
theorem sums1_in (m lw bl : Nat) (A : Option Addr) (ps : List Pay) (n c : Nat) (w : World) (S : List Int → World → Prop) (hG : Glob w) (hn : ps.length = n) (hn3 : n ≤ 1000) (hs : ∀ p ∈ ps, p.amt.length ≤ 1000) (h : PayAt w A ps)
    (hSB : ∀ ys W, S ys W → Below w.heap.size w W) (hSL : ∀ ys W, S ys W → Blk W bl #[.slice A n c]) (hSm : ∀ ys W W', S ys W → Below W.heap.size W W' → S ys W')
    (hY : ∀ ys y W, S ys W → y ≠ 0 → (canon y).length ≤ 3000 → ys.length < n → YieldAt Fence.wide (m - 1) Tryz.prog lw #[.string ⟨(canon y).toArray⟩] W fun e W' => e = .returned (.bool true) ∧ S (ys ++ [y]) W')
    (W : World) (hS : S [] W) :
    CallsIn Fence.wide m Tryz.prog 175 #[.func (.yield lw) #[] #[], .pointer (some ⟨bl, 0, none⟩)] W fun e W' => (∃ v, e = .returned v) ∧ S (sumsL 0 (pzs ps)) W' := by
  have c0 := riOf 0 (by decide) (by decide)
  rw [canon0] at c0
  obtain ⟨N, hN, hN2⟩ : ∃ N : Nat, N ≤ 1000 ∧ 1000 ≤ N := ⟨1000, Nat.le_refl _, Nat.le_refl _⟩
  have C0 := Lib.hid c0
  have HI := Lib.hid h
  have HS0 := Lib.hid hs
  have HB := Lib.hid hSB
  have HL := Lib.hid hSL
  have HM := Lib.hid hSm
  have HY := Lib.hid hY
  have HX := Lib.hid hS
  have hn1 : ps.length ≤ n := by omega
  have hn2 : n ≤ ps.length := by omega
  clear c0 h hs hSB hSL hSm hY hS hn
  refine callsIn_of_wp Tryz.func175 rfl trivial ?_ rfl
  simp only [Tryz.ntmps175, List.size_toArray, List.length_cons, List.length_nil, Nat.reduceAdd, Nat.reduceSub, Array.replicate_succ, Array.replicate_zero, List.push_toArray, List.append_toArray, List.nil_append, List.cons_append]
  gi_wp2_with fail
  refine ⟨trivial, fun h => (by cases h), ?_⟩
  refine (callsIn_wide.2 (C0.out.of hG (HB.out _ _ HX.out))).mono ?_
  rintro e w1 ⟨rfl, hb1⟩
  have HX1 := Lib.hid (HM.out _ _ _ HX.out hb1)
  have q0 : w1.cell? ⟨bl, 0, none⟩ = some (.slice A n c) := (HL.out _ _ HX1.out).c 0
  clear HX hb1 C0
  gi_wp2_with fail
  clear q0
  gi_loopw [3, 9] (fun sv iv wr => ∃ (k : Nat) (z : Int) (ys : List Int), k ≤ n ∧ iv = .int .i64 (k : Int) ∧ sv = .string ⟨(canon z).toArray⟩ ∧ Hid (z.natAbs < 10 ^ (N + k)) ∧ Hid (ys ++ sumsL z (pzs (ps.drop k)) = sumsL 0 (pzs ps)) ∧ Hid (S ys wr)) (fun _ iv _ => n - (intOf iv).toNat)
  case atStart => exact ⟨0, 0, [], Nat.zero_le _, rfl, by rw [canon0], zero_pow, by rw [List.drop_zero]; exact rfl, HX1.out⟩
  case round =>
    clear HX1
    obtain ⟨k, z, ys, hk, rfl, rfl, HZ, HQ, HX⟩ := hrel
    by_cases hlk : k < n
    rotate_left
    · have HE : Hid (S (sumsL 0 (pzs ps)) wr) := by
        have h1 := HQ.out
        rw [List.drop_of_length_le (by omega)] at h1
        have h2 : ys ++ [] = sumsL 0 (pzs ps) := h1
        rw [List.append_nil] at h2
        show S _ wr
        rw [← h2]; exact HX.out
      clear HZ HQ HX
      gi_wp2
      go_end0
      exact ⟨⟨_, rfl⟩, HE.out⟩
    obtain ⟨t, ht⟩ : ∃ t, ps[k]? = some t := ⟨_, List.getElem?_eq_getElem (by omega)⟩
    have hts := HS0.out t (List.mem_of_getElem? ht)
    have hb := HB.out _ _ HX.out
    obtain ⟨b, o, rfl, hbs, p0, p1⟩ := (HI.out.below hb) k t ht
    have hzl : (canon z).length ≤ N + k + 1 := Nat.le_trans (canon_len_le _ _ HZ.out) (by omega)
    have C1 := Lib.hid (riAdd (l := canon z) (l' := t.amt) (by omega) (by omega) (show val (canon z) + val t.amt = z + val t.amt by rw [val_canon]))
    have HZ2 := Lib.hid (abs_step HZ.out (val_lt_of (Nat.le_trans hts hN2)))
    have HN := Lib.hid ((sums_next ht z).symm)
    obtain ⟨z', hz'⟩ : ∃ z', z' = z + val t.amt := ⟨_, rfl⟩
    rw [← hz'] at C1 HZ2 HN
    have x5 := FBox.new wr (.int .i64 t.per) (.string ⟨t.amt.toArray⟩) 27
    have hbA := below_alloc wr (.cells #[.int .i64 t.per, .string ⟨t.amt.toArray⟩] 27)
    have hb5 := bto hb hbA
    have HX2 := Lib.hid (HM.out _ _ _ HX.out hbA)
    have q1 := x5.c1
    clear hz' hts hbA HX HZ hzl ht hb
    gi_wp2_with fail
    refine ⟨trivial, fun h => (by cases h), ?_⟩
    refine (callsIn_wide.2 (C1.out.of hG hb5)).mono ?_
    rintro e w4 ⟨rfl, hb4⟩
    clear q1 p0 p1 C1
    have hb := bto hb5 hb4
    have HX := Lib.hid (HM.out _ _ _ HX2.out hb4)
    replace x5 := x5.below hb4
    have q0 : w4.cell? ⟨bl, 0, none⟩ = some (.slice (some ⟨b, o, none⟩) n c) := (HL.out _ _ HX.out).c 0
    have q2 := x5.c0
    clear hb4 hb5 HX2 x5
    have hend : ∀ (w5 : World), Hid (S ys w5) → (ps[k + 1]?).map (·.per) ≠ some t.per → Hid (z' ≠ 0 → S (ys ++ [z']) w5 → True) := fun _ _ _ _ _ => trivial
    clear hend
    by_cases g1 : k + 1 < n
    · obtain ⟨u, hu⟩ : ∃ u, ps[k + 1]? = some u := ⟨_, List.getElem?_eq_getElem (by omega)⟩
      obtain ⟨b', o', hA', hbs', r0, r1⟩ := (HI.out.below hb) (k + 1) u hu
      obtain ⟨rfl, rfl⟩ : b = b' ∧ o = o' := by injection hA' with hA'; injection hA' with h1 h2; exact ⟨h1, h2⟩
      have e1 : decide ((k : Int) + 1 < n) = true := decide_eq_true (by omega)
      rw [hu] at HN
      clear hA' hbs' r1 hu
      by_cases g2 : u.per = t.per
      · have e2 : (u.per == t.per) = true := intbeq g2
        have HQ2 : Hid (ys ++ sumsL z' (pzs (ps.drop (k + 1))) = sumsL 0 (pzs ps)) := by
          have h1 := HN.out
          rw [if_pos (by rw [← g2]; rfl)] at h1
          show _ = _
          rw [h1]; exact HQ.out
        clear g2 HN HQ
        gi_wp2_with fail
        refine wpIn_wide.2 ?_
        go_quiet (fail)
        have HX3 := Lib.hid (HM.out _ _ _ HX.out (bdrewN (Below.refl _ w4) nq))
        gi_wp2
        go_roundw
        case rel => exact ⟨k + 1, z', ys, by omega, by go_num, rfl, HZ2.out, HQ2.out, HX3.out⟩
        case measure => simp [intOf]; omega
      · have e2 : (u.per == t.per) = false := intbne g2
        have HN2 : Hid ((if z' = 0 then sumsL 0 (pzs (ps.drop (k + 1))) else z' :: sumsL 0 (pzs (ps.drop (k + 1)))) = sumsL z (pzs (ps.drop k))) := by
          have h1 := HN.out
          rwa [if_neg (fun h => g2 (by injection h))] at h1
        clear g2 HN
        by_cases g3 : z' = 0
        · have e3 : (canon z' == []) = true := by rw [g3, canon0]; rfl
          have e4 : (canon z').isEmpty = true := by rw [g3, canon0]; rfl
          have HQ2 : Hid (ys ++ sumsL 0 (pzs (ps.drop (k + 1))) = sumsL 0 (pzs ps)) := by
            have h1 := HN2.out
            rw [if_pos g3] at h1
            show _ = _
            rw [h1]; exact HQ.out
          rw [g3, canon0]
          clear g3 HN2 HQ e3 e4
          gi_wp2_with fail
          refine wpIn_wide.2 ?_
          go_quiet (fail)
          have HX3 := Lib.hid (HM.out _ _ _ HX.out (bdrewN (Below.refl _ w4) nq))
          gi_wp2
          refine ⟨(fun f h => by cases h), ?_⟩
          gi_wp2
          go_roundw
          case rel => exact ⟨k + 1, 0, ys, by omega, by go_num, by rw [canon0], zero_pow, HQ2.out, HX3.out⟩
          case measure => simp [intOf]; omega
        · have HQ2 : Hid (ys ++ [z'] ++ sumsL 0 (pzs (ps.drop (k + 1))) = sumsL 0 (pzs ps)) := by
            have h1 := HN2.out
            rw [if_neg g3] at h1
            show _ = _
            rw [List.append_assoc, List.singleton_append, h1]; exact HQ.out
          have hyl : ys.length < n := by
            have h1 := congrArg List.length HQ2.out
            have h2 := sums_len (pzs ps) 0
            unfold pzs at h1 h2
            simp only [List.length_append, List.length_singleton, List.length_map] at h1 h2
            omega
          have HC : Hid (canon z' ≠ []) := canon_ne g3
          have hcl : (canon z').length ≤ 3000 := Nat.le_trans (canon_len_le _ _ HZ2.out) (by omega)
          have HYY : Hid (∀ W, S ys W → YieldAt Fence.wide (m - 1) Tryz.prog lw #[.string ⟨(canon z').toArray⟩] W fun e W' => e = .returned (.bool true) ∧ S (ys ++ [z']) W') := fun W h1 => HY.out ys z' W h1 g3 hcl hyl
          obtain ⟨L, hL⟩ : ∃ L, L = canon z' := ⟨_, rfl⟩
          rw [← hL] at HC HYY ⊢
          have e3 : (L == []) = false := by rw [beq_eq_false_iff_ne]; exact HC.out
          have e4 : L.isEmpty = false := by rw [List.isEmpty_eq_false_iff]; exact HC.out
          clear g3 HN2 HQ hL hyl HC hcl
          gi_wp2_with fail
          refine wpIn_wide.2 ?_
          go_quiet (fail)
          have HX3 := Lib.hid (HM.out _ _ _ HX.out (bdrewN (Below.refl _ w4) nq))
          obtain ⟨w5, hw5⟩ : ∃ w5, w5 = w4.drewN nq := ⟨_, rfl⟩
          rw [← hw5] at HX3 ⊢
          clear hw5
          obtain ⟨fn, tmps, assign, body, hy, hR⟩ := HYY.out w5 HX3.out
          gi_wp2
          refine ⟨fun h => (by cases h), hR.mono ?_⟩
          rintro e W3 ⟨rfl, hS3⟩
          have HX4 := Lib.hid hS3
          clear hS3 hR hy
          gi_wp2
          go_roundw
          case rel => exact ⟨k + 1, 0, ys ++ [z'], by omega, by go_num, by rw [canon0], zero_pow, HQ2.out, HX4.out⟩
          case measure => simp [intOf]; omega
    · have e1 : decide ((k : Int) + 1 < n) = false := decide_eq_false (by omega)
      have hu : ps[k + 1]? = none := List.getElem?_eq_none (by omega)
      rw [hu] at HN
      clear hu
      have HN2 : Hid ((if z' = 0 then sumsL 0 (pzs (ps.drop (k + 1))) else z' :: sumsL 0 (pzs (ps.drop (k + 1)))) = sumsL z (pzs (ps.drop k))) := by
        have h1 := HN.out
        rwa [if_neg (fun h => by cases h)] at h1
      clear HN
      by_cases g3 : z' = 0
      · have e3 : (canon z' == []) = true := by rw [g3, canon0]; rfl
        have e4 : (canon z').isEmpty = true := by rw [g3, canon0]; rfl
        have HQ2 : Hid (ys ++ sumsL 0 (pzs (ps.drop (k + 1))) = sumsL 0 (pzs ps)) := by
          have h1 := HN2.out
          rw [if_pos g3] at h1
          show _ = _
          rw [h1]; exact HQ.out
        rw [g3, canon0]
        clear g3 HN2 HQ e3 e4
        gi_wp2_with fail
        refine wpIn_wide.2 ?_
        go_quiet (fail)
        have HX3 := Lib.hid (HM.out _ _ _ HX.out (bdrewN (Below.refl _ w4) nq))
        gi_wp2
        refine ⟨(fun f h => by cases h), ?_⟩
        gi_wp2
        go_roundw
        case rel => exact ⟨k + 1, 0, ys, by omega, by go_num, by rw [canon0], zero_pow, HQ2.out, HX3.out⟩
        case measure => simp [intOf]; omega
      · have HQ2 : Hid (ys ++ [z'] ++ sumsL 0 (pzs (ps.drop (k + 1))) = sumsL 0 (pzs ps)) := by
          have h1 := HN2.out
          rw [if_neg g3] at h1
          show _ = _
          rw [List.append_assoc, List.singleton_append, h1]; exact HQ.out
        have hyl : ys.length < n := by
          have h1 := congrArg List.length HQ2.out
          have h2 := sums_len (pzs ps) 0
          unfold pzs at h1 h2
          simp only [List.length_append, List.length_singleton, List.length_map] at h1 h2
          omega
        have HC : Hid (canon z' ≠ []) := canon_ne g3
        have hcl : (canon z').length ≤ 3000 := Nat.le_trans (canon_len_le _ _ HZ2.out) (by omega)
        have HYY : Hid (∀ W, S ys W → YieldAt Fence.wide (m - 1) Tryz.prog lw #[.string ⟨(canon z').toArray⟩] W fun e W' => e = .returned (.bool true) ∧ S (ys ++ [z']) W') := fun W h1 => HY.out ys z' W h1 g3 hcl hyl
        obtain ⟨L, hL⟩ : ∃ L, L = canon z' := ⟨_, rfl⟩
        rw [← hL] at HC HYY ⊢
        have e3 : (L == []) = false := by rw [beq_eq_false_iff_ne]; exact HC.out
        have e4 : L.isEmpty = false := by rw [List.isEmpty_eq_false_iff]; exact HC.out
        clear g3 HN2 HQ hL hyl HC hcl
        gi_wp2_with fail
        refine wpIn_wide.2 ?_
        go_quiet (fail)
        have HX3 := Lib.hid (HM.out _ _ _ HX.out (bdrewN (Below.refl _ w4) nq))
        obtain ⟨w5, hw5⟩ : ∃ w5, w5 = w4.drewN nq := ⟨_, rfl⟩
        rw [← hw5] at HX3 ⊢
        clear hw5
        obtain ⟨fn, tmps, assign, body, hy, hR⟩ := HYY.out w5 HX3.out
        gi_wp2
        refine ⟨fun h => (by cases h), hR.mono ?_⟩
        rintro e W3 ⟨rfl, hS3⟩
        have HX4 := Lib.hid hS3
        clear hS3 hR hy
        gi_wp2
        go_roundw
        case rel => exact ⟨k + 1, 0, ys ++ [z'], by omega, by go_num, by rw [canon0], zero_pow, HQ2.out, HX4.out⟩
        case measure => simp [intOf]; omega
theorem sums_any (A : Option Addr) (n c : Nat) (w : World) :
    Calls Tryz.prog 120 #[.slice A n c] w fun e w' => e = .returned (.func (.func 175) #[] #[.pointer (some ⟨w.heap.size, 0, none⟩)]) ∧ w' = w.alloc (.cells #[.slice A n c] 28) := by
  go_enter Tryz.func120, Tryz.ntmps120
  go_wp2_with fail
  go_ret
  exact ⟨rfl, rfl⟩
theorem sgFold_go2 : ∀ (l : List Int) (t : Int × Int × Int), t.1 ≤ (l.foldl sgStep t).1 ∧ (l.foldl sgStep t).1 ≤ t.1 + l.length
  | [], t => ⟨Int.le_refl _, by simp⟩
  | y :: r, t => by
    obtain ⟨h1, h2⟩ := sgFold_go2 r (sgStep t y)
    have h3 : t.1 ≤ (sgStep t y).1 ∧ (sgStep t y).1 ≤ t.1 + 1 := by
      unfold sgStep
      dsimp only
      split
      · omega
      · split <;> omega
    rw [List.foldl_cons, List.length_cons]
    omega
theorem sgFold_bd (l : List Int) : 0 ≤ (sgFold l).1 ∧ (sgFold l).1 ≤ l.length := by
  have := sgFold_go2 l (0, 0, 0)
  unfold sgFold
  simpa using this
end Go.Proofs.YtolbojchdlojnaaGreatDoor
