/- The signs of the sums, and how often they change: trancheref47. -/
import Derived.Test.YtolbojchdlojnaaGreatDoorWg
import Derived.Test.YtolbojchdlojnaaGreatDoorWs
namespace Go.Proofs.YtolbojchdlojnaaGreatDoor
open Go.RowKit Num
/-- a slice of payments as an argument -/
structure PL (w : World) (A : Option Addr) (ps : List Pay) (n : Nat) : Prop where
  at_ : PayAt w A ps
  len : ps.length = n
  sm : ∀ p ∈ ps, p.amt.length ≤ 1000
  n1 : n ≤ 1000
theorem PL.below {w w' : World} {A : Option Addr} {ps : List Pay} {n : Nat} (h : PL w A ps n) (hb : Below w.heap.size w w') : PL w' A ps n := ⟨h.at_.below hb, h.len, h.sm, h.n1⟩
/-- a slice of numbers -/
def IntAt (w : World) (A : Option Addr) (xs : List Int) : Prop := ∀ (i : Nat) (x : Int), xs[i]? = some x → ∃ b o, A = some ⟨b, o, none⟩ ∧ b < w.heap.size ∧ w.cell? ⟨b, o + i, none⟩ = some (.int .i64 x)
theorem IntAt.below {w w' : World} {A : Option Addr} {xs : List Int} (h : IntAt w A xs) (hb : Below w.heap.size w w') : IntAt w' A xs := fun i s hs => by
  obtain ⟨b, o, rfl, h1, h2⟩ := h i s hs
  exact ⟨b, o, rfl, Nat.lt_of_lt_of_le h1 hb.size, (hb.cell (p := ⟨b, o + i, none⟩) h1).trans h2⟩
abbrev Gv (ys : List Int) : List Value := ys.map fun y => Value.int .i64 (cmpZ y 0)
theorem own_intAt {w : World} {base n c : Nat} {A : Option Addr} {ys : List Int} {e : TypeId} (h : w.ownsRow base e 1 (.slice A n c) n (Gv ys)) (hn : n = ys.length) : IntAt w A (ys.map (fun x => cmpZ x 0)) := fun i s hs => by
  have hi := (List.getElem?_eq_some_iff.1 hs).1
  rw [List.length_map] at hi
  rcases h.2 with ⟨hv, h0⟩ | ⟨g, cap, cur, hv, hb, hh, _⟩
  · omega
  · injection hv with h1 _ h3
    subst h1 h3
    refine ⟨g, 0, rfl, (Array.getElem?_eq_some_iff.1 hh).1, ?_⟩
    rw [List.getElem?_map] at hs
    rw [Nat.zero_add, h.cellAt i (by omega)]
    obtain ⟨y, hy, rfl⟩ := Option.map_eq_some_iff.1 hs
    simp [hy]
theorem info_int : (Tryz.prog.info? 3).map (fun i => (i.zero, i.size, i.bytes)) = some (some (.int .i64 0), 1, 8) := by kernel_rfl
theorem own_none (w : World) (base : Nat) (hb : base ≤ w.heap.size) : (w.alloc (.cells #[] 3)).ownsRow base 3 1 (.slice (some ⟨w.heap.size, 0, none⟩) 0 0) 0 (Gv []) :=
  ⟨rfl, .inr ⟨w.heap.size, 0, #[], rfl, hb, heap_alloc_new w _, Nat.le_refl _, by unfold maxLen; omega, rfl, rfl⟩⟩
set_option maxHeartbeats 4000000 in
set_option maxRecDepth 100000 in
theorem mrSigns (A : Option Addr) (ps : List Pay) (n c : Nat) (w : World) (hG : Glob w) (h : PL w A ps n) :
    Calls Tryz.prog 83 #[.slice A n c] w fun e w' => ∃ B cp, e = .returned (.slice B (sumsL 0 (pzs ps)).length cp) ∧ IntAt w' B ((sumsL 0 (pzs ps)).map (fun x => cmpZ x 0)) ∧ Below w.heap.size w w' := by
  obtain ⟨i0, hi, hz0, hz1, hz2⟩ := info_parts info_int
  have HI := Lib.hid h.at_
  have HS0 := Lib.hid h.sm
  have hn1 : ps.length ≤ n := by have := h.len; omega
  have hn2 : n ≤ ps.length := by have := h.len; omega
  have hn3 := h.n1
  obtain ⟨N, hN, hN2⟩ : ∃ N : Nat, N ≤ 1000 ∧ 1000 ≤ N := ⟨1000, Nat.le_refl _, Nat.le_refl _⟩
  clear h
  have own0 := own_none w w.heap.size (Nat.le_refl _)
  have hb := below_alloc w (.cells #[] 3)
  go_enter Tryz.func83, Tryz.ntmps83
  go_wp2_with fail
  go_loopw [3, 4, 5] (fun ov sv iv wr => ∃ (k : Nat) (z : Int) (ys : List Int) (B : Option Addr) (cp : Nat), k ≤ n ∧ iv = .int .i64 (k : Int) ∧ ov = .slice B ys.length cp ∧ sv = .string ⟨(canon z).toArray⟩ ∧ Hid (z.natAbs < 10 ^ (N + k)) ∧ Hid (ys ++ sumsL z (pzs (ps.drop k)) = sumsL 0 (pzs ps)) ∧ Hid (wr.ownsRow w.heap.size 3 1 (.slice B ys.length cp) ys.length (Gv ys)) ∧ Below w.heap.size w wr) (fun _ _ iv _ => n - (intOf iv).toNat)
  case atStart => exact ⟨0, 0, [], some ⟨w.heap.size, 0, none⟩, 0, Nat.zero_le _, rfl, rfl, by rw [canon0], zero_pow, by rw [List.drop_zero]; exact rfl, own0, hb⟩
  case round =>
    clear own0 hb
    obtain ⟨k, z, ys, B, cp, hk, rfl, rfl, rfl, HZ, HQ, HO, hb⟩ := hrel
    by_cases hlk : k < n
    rotate_left
    · have hE : ys = sumsL 0 (pzs ps) := by
        have h1 := HQ.out
        rw [List.drop_of_length_le (by omega)] at h1
        have h2 : ys ++ [] = sumsL 0 (pzs ps) := h1
        rwa [List.append_nil] at h2
      subst hE
      have HSt := Lib.hid (own_intAt HO.out rfl)
      clear HZ HQ HO
      go_wp2
      go_ret
      exact ⟨B, cp, rfl, HSt.out, hb⟩
    obtain ⟨t, ht⟩ : ∃ t, ps[k]? = some t := ⟨_, List.getElem?_eq_getElem (by omega)⟩
    have hts := HS0.out t (List.mem_of_getElem? ht)
    obtain ⟨b, o, rfl, hbs, p0, p1⟩ := (HI.out.below hb) k t ht
    have hzl : (canon z).length ≤ N + k + 1 := Nat.le_trans (canon_len_le _ _ HZ.out) (by omega)
    have C1 := Lib.hid (qAdd (l := canon z) (l' := t.amt) (by omega) (by omega) (show val (canon z) + val t.amt = z + val t.amt by rw [val_canon]))
    have HZ2 := Lib.hid (abs_step HZ.out (val_lt_of (Nat.le_trans hts hN2)))
    have HN := Lib.hid ((sums_next ht z).symm)
    have hyl : ys.length ≤ n := by
      have h1 := congrArg List.length HQ.out
      have h2 := sums_len (pzs ps) 0
      unfold pzs at h1 h2
      simp only [List.length_append, List.length_map] at h1 h2
      omega
    obtain ⟨z', hz'⟩ : ∃ z', z' = z + val t.amt := ⟨_, rfl⟩
    rw [← hz'] at C1 HZ2 HN
    have hzl2 : (canon z').length ≤ 3000 := Nat.le_trans (canon_len_le _ _ HZ2.out) (by omega)
    have C2 := Lib.hid (qSign (l := canon z') (by omega) (c := cmpZ z' 0) (by rw [val_canon]))
    clear hz' hts HZ hzl ht hzl2
    go_wp2_with fail
    ((with_reducible refine (C1.out.of hG hb).mono ?_); rintro e w4 ⟨rfl, hb4⟩)
    have q0 : w4.cell? ⟨b, o + k * 2, none⟩ = some (.int .i64 t.per) := (hb4.cell (p := ⟨b, o + k * 2, none⟩) hbs).trans p0
    replace HO := Lib.hid (own_below HO.out hb4)
    replace hb := bto hb hb4
    clear p0 p1 C1 hb4
    by_cases g1 : k + 1 < n
    · obtain ⟨u, hu⟩ : ∃ u, ps[k + 1]? = some u := ⟨_, List.getElem?_eq_getElem (by omega)⟩
      obtain ⟨b', o', hA', hbs', r0, r1⟩ := (HI.out.below hb) (k + 1) u hu
      obtain ⟨rfl, rfl⟩ : b = b' ∧ o = o' := by injection hA' with hA'; injection hA' with h1 h2; exact ⟨h1, h2⟩
      have e1 : decide ((k : Int) + 1 < n) = true := decide_eq_true (by omega)
      rw [hu] at HN
      clear hA' hbs' r1 hu
      by_cases g2 : u.per = t.per
      · have e2 : (u.per == t.per) = true := intbeq g2
        have HQ2 : Hid (ys ++ sumsL z' (pzs (ps.drop (k + 1))) = sumsL 0 (pzs ps)) := by
          have h1 := HN.out
          rw [if_pos (by rw [← g2]; rfl)] at h1
          show _ = _
          rw [h1]; exact HQ.out
        clear g2 HN HQ
        go_wp2_with fail
        go_quiet (fail)
        replace HO := Lib.hid (own_below HO.out (bdrewN (Below.refl _ w4) nq))
        replace hb := bdrewN hb nq
        go_wp2
        go_roundw
        case rel => exact ⟨k + 1, z', ys, B, cp, by omega, by go_num, rfl, rfl, HZ2.out, HQ2.out, HO.out, hb⟩
        case measure => simp [intOf]; omega
      · have e2 : (u.per == t.per) = false := intbne g2
        have HN2 : Hid ((if z' = 0 then sumsL 0 (pzs (ps.drop (k + 1))) else z' :: sumsL 0 (pzs (ps.drop (k + 1)))) = sumsL z (pzs (ps.drop k))) := by
          have h1 := HN.out
          rwa [if_neg (fun h => g2 (by injection h))] at h1
        clear g2 HN
        go_wp2_with fail
        go_quiet (fail)
        replace HO := Lib.hid (own_below HO.out (bdrewN (Below.refl _ w4) nq))
        replace hb := bdrewN hb nq
        obtain ⟨w5, hw5⟩ : ∃ w5, w5 = w4.drewN nq := ⟨_, rfl⟩
        rw [← hw5] at HO hb ⊢
        clear hw5 q0
        go_wp2_with fail
        ((with_reducible refine (C2.out.of hG hb).mono ?_); rintro e w6 ⟨rfl, hb6⟩)
        replace HO := Lib.hid (own_below HO.out hb6)
        replace hb := bto hb hb6
        clear hb6 C2
        by_cases g3 : z' = 0
        · have e3 : (cmpZ z' 0 != 0) = false := by rw [g3]; rfl
          have HQ2 : Hid (ys ++ sumsL 0 (pzs (ps.drop (k + 1))) = sumsL 0 (pzs ps)) := by
            have h1 := HN2.out
            rw [if_pos g3] at h1
            show _ = _
            rw [h1]; exact HQ.out
          generalize cmpZ z' 0 = s at *
          clear g3 HN2 HQ
          go_wp2
          go_roundw
          case rel => exact ⟨k + 1, 0, ys, B, cp, by omega, by go_num, rfl, by rw [canon0], zero_pow, HQ2.out, HO.out, hb⟩
          case measure => simp [intOf]; omega
        · have e3 : (cmpZ z' 0 != 0) = true := bneq' (intbne (cmpZ_ne g3))
          have HQ2 : Hid (ys ++ [z'] ++ sumsL 0 (pzs (ps.drop (k + 1))) = sumsL 0 (pzs ps)) := by
            have h1 := HN2.out
            rw [if_neg g3] at h1
            show _ = _
            rw [List.append_assoc, List.singleton_append, h1]; exact HQ.out
          have hw6 : w.heap.size ≤ w6.heap.size := hb.size
          have hg : Gv (ys ++ [z']) = Gv ys ++ [.int .i64 (cmpZ z' 0)] := by simp [Gv]
          have HGv := Lib.hid hg
          have hgl : (ys ++ [z']).length = ys.length + 1 := by simp
          have HGl := Lib.hid hgl
          obtain ⟨s, hs⟩ : ∃ s, s = cmpZ z' 0 := ⟨_, rfl⟩
          rw [← hs] at e3 HGv ⊢
          have own5 : (w6.alloc (.cells #[.int .i64 s] 3)).ownsRow w.heap.size 3 1 (.slice B ys.length cp) ys.length (Gv ys) := own_below HO.out (below_alloc _ _)
          clear g3 HN2 HQ hg hgl hs HO
          go_wp2_with (at_builtin; refine wpList_append_own _ rfl _ _ 108 rfl w.heap.size 3 i0 (.int .i64 0) 1 8 Tryz.underlying108 hi hz0 hz1 hz2 rfl (by decide) _ _ _ rfl own5 ⟨w6.heap.size, 0, none⟩ 1 1 [.int .i64 s] rfl rfl ?c1 ?c2 ?c3 ?c4 ?c5 ?_)
          case c1 =>
            intro j u hu
            cases j with
            | zero => simp at hu; subst hu; rw [Lib.add_plain]; simp [go_sem]
            | succ j => simp at hu
          case c2 => intro u hu; simp at hu; subst hu; rfl
          case c3 => unfold maxLen; omega
          case c4 => omega
          case c5 => simp; omega
          intro v' w7 hown' hgrow _
          have hb7 : Below w.heap.size w w7 := (hb.alloc hw6 _).grown hgrow (by simp; omega) (own_block_ge own5)
          obtain ⟨B', c', rfl⟩ := own_form hown'
          have HO2 : Hid (w7.ownsRow w.heap.size 3 1 (.slice B' (ys ++ [z']).length c') (ys ++ [z']).length (Gv (ys ++ [z']))) := by
            show World.ownsRow _ _ _ _ _ _ _
            rw [HGl.out, HGv.out]; exact hown'
          clear hown' hgrow own5 e3
          go_wp2
          go_roundw
          case rel => exact ⟨k + 1, 0, ys ++ [z'], B', c', by omega, by go_num, by rw [HGl.out], by rw [canon0], zero_pow, HQ2.out, HO2.out, hb7⟩
          case measure => simp [intOf]; omega
    · have e1 : decide ((k : Int) + 1 < n) = false := decide_eq_false (by omega)
      have hu : ps[k + 1]? = none := List.getElem?_eq_none (by omega)
      rw [hu] at HN
      have HN2 : Hid ((if z' = 0 then sumsL 0 (pzs (ps.drop (k + 1))) else z' :: sumsL 0 (pzs (ps.drop (k + 1)))) = sumsL z (pzs (ps.drop k))) := by
        have h1 := HN.out
        rwa [if_neg (fun h => by cases h)] at h1
      clear hu HN
      go_wp2_with fail
      go_quiet (fail)
      replace HO := Lib.hid (own_below HO.out (bdrewN (Below.refl _ w4) nq))
      replace hb := bdrewN hb nq
      obtain ⟨w5, hw5⟩ : ∃ w5, w5 = w4.drewN nq := ⟨_, rfl⟩
      rw [← hw5] at HO hb ⊢
      clear hw5 q0
      go_wp2_with fail
      ((with_reducible refine (C2.out.of hG hb).mono ?_); rintro e w6 ⟨rfl, hb6⟩)
      replace HO := Lib.hid (own_below HO.out hb6)
      replace hb := bto hb hb6
      clear hb6 C2
      by_cases g3 : z' = 0
      · have e3 : (cmpZ z' 0 != 0) = false := by rw [g3]; rfl
        have HQ2 : Hid (ys ++ sumsL 0 (pzs (ps.drop (k + 1))) = sumsL 0 (pzs ps)) := by
          have h1 := HN2.out
          rw [if_pos g3] at h1
          show _ = _
          rw [h1]; exact HQ.out
        generalize cmpZ z' 0 = s at *
        clear g3 HN2 HQ
        go_wp2
        go_roundw
        case rel => exact ⟨k + 1, 0, ys, B, cp, by omega, by go_num, rfl, by rw [canon0], zero_pow, HQ2.out, HO.out, hb⟩
        case measure => simp [intOf]; omega
      · have e3 : (cmpZ z' 0 != 0) = true := bneq' (intbne (cmpZ_ne g3))
        have HQ2 : Hid (ys ++ [z'] ++ sumsL 0 (pzs (ps.drop (k + 1))) = sumsL 0 (pzs ps)) := by
          have h1 := HN2.out
          rw [if_neg g3] at h1
          show _ = _
          rw [List.append_assoc, List.singleton_append, h1]; exact HQ.out
        have hw6 : w.heap.size ≤ w6.heap.size := hb.size
        have hg : Gv (ys ++ [z']) = Gv ys ++ [.int .i64 (cmpZ z' 0)] := by simp [Gv]
        have HGv := Lib.hid hg
        have hgl : (ys ++ [z']).length = ys.length + 1 := by simp
        have HGl := Lib.hid hgl
        obtain ⟨s, hs⟩ : ∃ s, s = cmpZ z' 0 := ⟨_, rfl⟩
        rw [← hs] at e3 HGv ⊢
        have own5 : (w6.alloc (.cells #[.int .i64 s] 3)).ownsRow w.heap.size 3 1 (.slice B ys.length cp) ys.length (Gv ys) := own_below HO.out (below_alloc _ _)
        clear g3 HN2 HQ hg hgl hs HO
        go_wp2_with (at_builtin; refine wpList_append_own _ rfl _ _ 108 rfl w.heap.size 3 i0 (.int .i64 0) 1 8 Tryz.underlying108 hi hz0 hz1 hz2 rfl (by decide) _ _ _ rfl own5 ⟨w6.heap.size, 0, none⟩ 1 1 [.int .i64 s] rfl rfl ?dc1 ?dc2 ?dc3 ?dc4 ?dc5 ?_)
        case dc1 =>
          intro j u hu
          cases j with
          | zero => simp at hu; subst hu; rw [Lib.add_plain]; simp [go_sem]
          | succ j => simp at hu
        case dc2 => intro u hu; simp at hu; subst hu; rfl
        case dc3 => unfold maxLen; omega
        case dc4 => omega
        case dc5 => simp; omega
        intro v' w7 hown' hgrow _
        have hb7 : Below w.heap.size w w7 := (hb.alloc hw6 _).grown hgrow (by simp; omega) (own_block_ge own5)
        obtain ⟨B', c', rfl⟩ := own_form hown'
        have HO2 : Hid (w7.ownsRow w.heap.size 3 1 (.slice B' (ys ++ [z']).length c') (ys ++ [z']).length (Gv (ys ++ [z']))) := by
          show World.ownsRow _ _ _ _ _ _ _
          rw [HGl.out, HGv.out]; exact hown'
        clear hown' hgrow own5 e3
        go_wp2
        go_roundw
        case rel => exact ⟨k + 1, 0, ys ++ [z'], B', c', by omega, by go_num, by rw [HGl.out], by rw [canon0], zero_pow, HQ2.out, HO2.out, hb7⟩
        case measure => simp [intOf]; omega
theorem nbN_drop {xs : List Int} {j : Nat} {x y : Int} (hx : xs[j]? = some x) (hy : xs[j + 1]? = some y) : nbN (xs.drop j) = (if y = x then 0 else 1) + nbN (xs.drop (j + 1)) := by
  obtain ⟨h1, rfl⟩ := List.getElem?_eq_some_iff.1 hx
  obtain ⟨h2, rfl⟩ := List.getElem?_eq_some_iff.1 hy
  rw [List.drop_eq_getElem_cons h1, List.drop_eq_getElem_cons h2]
  rfl
theorem nbN_end {xs : List Int} {j : Nat} (h : xs.length ≤ j + 1) : nbN (xs.drop j) = 0 := by
  match hd : xs.drop j with
  | [] => rfl
  | [a] => rfl
  | a :: b :: r =>
    have := congrArg List.length hd
    simp only [List.length_drop, List.length_cons] at this
    omega
set_option maxHeartbeats 2000000 in
set_option maxRecDepth 100000 in
theorem mrChg (A : Option Addr) (xs : List Int) (n c : Nat) (w : World) (hn : xs.length = n) (hn3 : n ≤ 1000) (h : IntAt w A xs) :
    Calls Tryz.prog 82 #[.slice A n c] w fun e w' => e = .returned (.int .i64 (nbN xs : Int)) ∧ Below w.heap.size w w' := by
  have HI := Lib.hid h
  have hn1 : xs.length ≤ n := by omega
  have hn2 : n ≤ xs.length := by omega
  clear h hn
  go_enter Tryz.func82, Tryz.ntmps82
  go_wp2_with fail
  go_loopw [3, 4] (fun cv iv wr => ∃ j cnt : Nat, j ≤ n ∧ cnt ≤ j ∧ iv = .int .i64 ((j : Int) + 1) ∧ cv = .int .i64 (cnt : Int) ∧ Hid (cnt + nbN (xs.drop j) = nbN xs) ∧ Below w.heap.size w wr) (fun _ iv _ => n - (intOf iv).toNat)
  case atStart => exact ⟨0, 0, Nat.zero_le _, Nat.le_refl _, rfl, rfl, by rw [List.drop_zero]; exact Nat.zero_add _, Below.refl _ _⟩
  case round =>
    obtain ⟨j, cnt, hj, hcj, rfl, rfl, HQ, hb⟩ := hrel
    by_cases hlk : j + 1 < n
    rotate_left
    · have hq : cnt = nbN xs := by have h1 := HQ.out; rw [nbN_end (by omega)] at h1; omega
      have hlt : ¬ (j : Int) + 1 < n := by omega
      subst hq
      go_wp2
      go_ret
      exact ⟨rfl, hb⟩
    obtain ⟨x, hx⟩ : ∃ x, xs[j]? = some x := ⟨_, List.getElem?_eq_getElem (by omega)⟩
    obtain ⟨y, hy⟩ : ∃ y, xs[j + 1]? = some y := ⟨_, List.getElem?_eq_getElem (by omega)⟩
    obtain ⟨b, o, rfl, hbs, p0⟩ := (HI.out.below hb) j x hx
    obtain ⟨b', o', hA', hbs', p1⟩ := (HI.out.below hb) (j + 1) y hy
    obtain ⟨rfl, rfl⟩ : b = b' ∧ o = o' := by injection hA' with hA'; injection hA' with h1 h2; exact ⟨h1, h2⟩
    have HD := Lib.hid (nbN_drop hx hy)
    have hjw : IntKind.i64.wrap (j : Int) = (j : Int) := Go.IntWalk.i64_in _ (by omega)
    have hj1 : (j : Int) + 1 < n := by omega
    have hj2 : j < n := by omega
    have hj0 : (0 : Int) ≤ (j : Int) + 1 := by omega
    clear hA' hbs' hx hy
    by_cases g : y = x
    · have e2 : (y != x) = false := by rw [g]; exact bne_self_eq_false x
      have HQ2 : Hid (cnt + nbN (xs.drop (j + 1)) = nbN xs) := by
        have h1 := HQ.out; rw [HD.out, if_pos g, Nat.zero_add] at h1; exact h1
      clear g HQ HD
      go_wp2_with fail
      go_quiet (fail)
      replace hb := bdrewN hb nq
      go_wp2
      go_roundw
      case rel => exact ⟨j + 1, cnt, by omega, by omega, by go_num, rfl, HQ2.out, hb⟩
      case measure => simp [intOf]; omega
    · have e2 : (y != x) = true := bneq' (intbne g)
      have HQ2 : Hid (cnt + 1 + nbN (xs.drop (j + 1)) = nbN xs) := by
        have h1 := HQ.out; rw [HD.out, if_neg g, ← Nat.add_assoc] at h1; exact h1
      clear g HQ HD
      go_wp2_with fail
      go_quiet (fail)
      replace hb := bdrewN hb nq
      go_wp2
      go_roundw
      case rel => exact ⟨j + 1, cnt + 1, by omega, by omega, by go_num, by go_num, HQ2.out, hb⟩
      case measure => simp [intOf]; omega
end Go.Proofs.YtolbojchdlojnaaGreatDoor
