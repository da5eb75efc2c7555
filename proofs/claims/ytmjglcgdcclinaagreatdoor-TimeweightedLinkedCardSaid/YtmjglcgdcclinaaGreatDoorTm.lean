/- trancheref46: Factors, Link, Return, Dietz. -/
import Derived.Test.YtmjglcgdcclinaaGreatDoorTl
namespace Go.Proofs.YtmjglcgdcclinaaGreatDoor
open Go.RowKit Num
section
variable {P : Program}
theorem wp_region_kept_one {id : Nat} {Q : Exit → Act → World → Prop} {a : Act} {w : World} {l : List Oper} (K b1 : Nat) (s1 : Tmp) (ob1 : Obj) (hm : P.follows .mixedOrders = true) (hB : Region.lexB .any l.toArray = true)
    (hK : l.length ≤ K) (h1 : w.heap[b1]? = some ob1)
    (ha : a.put (some s1) (.pointer (some ⟨b1, 0, none⟩)) = a)
    (h : wpKept P l.toArray (BelowX (fun k => k = b1) w) (fun a' B => ∀ ρ w', FitsX (fun k => k = b1) w ρ B w' → Q .normal (a' ρ) w') l 0 (fun ρ => a.put (some s1) (.pointer (some ⟨ρ K, 0, none⟩))) (fun k => if k = K then some (false, ob1) else none)) : (Code.region id l.toArray true).wp P Q a w := by
  simp only [Region.lexB, Bool.and_eq_true] at hB
  refine wp_region_any hm ?_
  have hf : FitsX (fun k => k = b1) w (fun _ => b1) (fun k => if k = K then some (false, ob1) else none) { w with drawn := w.drawn + 1 } := by
    refine ⟨⟨rfl, rfl, rfl, Nat.le_refl _, fun _ _ _ => rfl⟩, ?_, ?_⟩
    · intro k s' o' hk
      by_cases hkK : k = K
      · rw [if_pos hkK] at hk
        simp only [Option.some.injEq, Prod.mk.injEq] at hk
        exact ⟨by simp, by rw [← hk.2]; exact h1⟩
      · rw [if_neg hkK] at hk; cases hk
    · intro k j hk hj _
      have hc : ∀ k, (if k = K then some (false, ob1) else none) ≠ none → k = K := fun k hk => by
        by_cases g1 : k = K
        · exact g1
        · rw [if_neg g1] at hk; exact absurd rfl hk
      rw [hc k hk, hc j hj]
  have hfr : FreeOf (Array.replicate l.toArray.size false) (fun ρ => a.put (some s1) (.pointer (some ⟨ρ K, 0, none⟩))) := by
    intro i ρ c hi
    have hlt : i < l.length := by
      rcases Nat.lt_or_ge i l.length with h' | h'
      · exact h'
      · rw [Array.getD_eq_getD_getElem?, Array.getElem?_eq_none (by simpa using h')] at hi; cases hi
    have e : upd ρ i c K = ρ K := if_neg (by omega)
    simp only [e]
  have := wpAnyK_lex (C := BelowX (fun k => k = b1) w) (md := .any) hB.1 l 0 (Array.replicate l.toArray.size false) _ _ (by simp) (by simpa using hB.2) h
  have h3 := wpAny_of_keptX (Q := fun a' B => ∀ ρ w', FitsX (fun k => k = b1) w ρ B w' → Q .normal (a' ρ) w') (fun a' B ρ w' hf' h' => h' ρ w' hf') _ _ _ _ _ _ hf hfr this
  rw [ha] at h3
  simpa using h3
end
theorem qOf1 (n : Int) (h1 : -9223372036854775808 ≤ n) (h2 : n ≤ 9223372036854775807) : Ret 118 #[.int .i64 n] (.string ⟨(canon n).toArray⟩) := fun w _ => (rof_any n w h1 h2).mono fun e w' ⟨h, k⟩ => ⟨h, by subst k; exact Below.refl _ _⟩
set_option maxHeartbeats 1000000 in
set_option maxRecDepth 100000 in
theorem rwRatio {a b : Int} (ha : a.natAbs < 10 ^ 17) (hb : b.natAbs < 10 ^ 17) (h0 : b ≠ 0) {q : Rat} (eq : Rat.divInt a b = q) : Ret 79 #[.int .i64 a, .int .i64 b] (Value.agg #[Value.string ⟨List.toArray (fN q)⟩, Value.string ⟨List.toArray (fD q)⟩]) := fun w hG => by
  have C1 := Lib.hid (qOf1 a (by omega) (by omega))
  have C2 := Lib.hid (qOf1 b (by omega) (by omega))
  have la := canon_len_le a 17 ha
  have lb := canon_len_le b 17 hb
  have C3 := Lib.hid (sNew1 (l := canon a) (l' := canon b) (by omega) (by omega) (by rw [val_canon]; exact h0) (show fv _ _ = q by unfold fv; rw [val_canon, val_canon]; unfold den1; rw [if_neg h0]; exact eq))
  have x3 := FBox.new w (.string ⟨#[]⟩) (.string ⟨#[]⟩) 32
  have hb := below_alloc w (.cells #[.string ⟨#[]⟩, .string ⟨#[]⟩] 32)
  clear ha h0 eq la lb
  generalize canon a = X at *
  generalize canon b = Y at *
  go_enter Tryz.func79, Tryz.ntmps79
  go_wp2_with fail
  ((with_reducible refine (C1.out.of hG hb).mono ?_); rintro e w2 ⟨rfl, hb2⟩)
  replace x3 := x3.below hb2
  replace hb := bto hb hb2
  clear hb2
  go_wp2_with fail
  ((with_reducible refine (C2.out.of hG hb).mono ?_); rintro e w3 ⟨rfl, hb3⟩)
  replace x3 := x3.below hb3
  replace hb := bto hb hb3
  clear hb3
  go_wp2_with fail
  ((with_reducible refine (C3.out.of hG hb).mono ?_); rintro e w4 ⟨rfl, hb4⟩)
  have x4 := FBox.new w4 (.string ⟨(fN (q)).toArray⟩) (.string ⟨(fD (q)).toArray⟩) 32
  have hbA := below_alloc w4 (.cells #[.string ⟨(fN (q)).toArray⟩, .string ⟨(fD (q)).toArray⟩] 32)
  replace x3 := (x3.below hb4).below hbA
  replace hb := bto hb (bto hb4 hbA)
  have g0 := x3.c0
  have g1 := x3.c1
  have g2 := x3.f0
  have g3 := x3.f1
  have p0 := x4.c0
  have p1 := x4.c1
  clear hb4 hbA
  go_wp2
  have hy := x3.set (.string ⟨(fN (q)).toArray⟩) (.string ⟨(fD (q)).toArray⟩)
  have d0 := hy.c0
  have d1 := hy.c1
  refine bodyPost_ret (v := (Value.agg #[Value.string ⟨List.toArray (fN q)⟩, Value.string ⟨List.toArray (fD q)⟩])) (by simp [results, Tryz.results79, go_sem, d0, d1]) rfl ?_
  exact ⟨rfl, below_set2 hb (Nat.le_refl _) _ _⟩
set_option maxHeartbeats 4000000 in
set_option maxRecDepth 100000 in
theorem rwFactors {w : World} {A : Option Addr} {ts : List Pnt} {n : Nat} (hG : Glob w) (h : QL w A ts n) (c : Nat) :
    Calls Tryz.prog 25 #[.slice A n c] w fun e w' => ∃ v qs, e = .returned (.tuple #[v, .int .i64 (if pntE ts = 0 then 0 else 1)]) ∧ qs = (if pntE ts = 0 then facs (pts ts) else []) ∧ w'.ownsRow w.heap.size 32 2 v qs.length (rowsF (frs qs)) ∧ Below w.heap.size w w' := by
  have C1 := Lib.hid (rwCheckB hG h c)
  have hb := Below.refl w.heap.size w
  by_cases g : pntE ts = 0
  rotate_left
  · have e1 : (pntE ts != 0) = true := bneq' (intbne g)
    rw [if_neg g, if_neg g]
    generalize pntE ts = E at *
    clear g h
    go_enter Tryz.func25, Tryz.ntmps25
    go_wp2_with fail
    ((with_reducible refine (C1.out.of hG hb).mono ?_); rintro e w1 ⟨rfl, hb1⟩)
    replace hb := bto hb hb1
    have HO := Lib.hid (own_baseN (@World.ownsRow_made w1.heap.size 32 2 w1 #[] 0 (Nat.le_refl _) (Nat.zero_le _) (by simp)) hb.size)
    go_wp2
    refine bodyPost_ret (v := .tuple #[.slice (some ⟨w1.heap.size, 0, none⟩) 0 0, .int .i64 1]) (by simp [results, Tryz.results25, go_sem]) rfl ?_
    exact ⟨_, _, rfl, rfl, HO.out, bto hb (below_alloc _ _)⟩
  obtain ⟨h1, h12, hp, -, hok⟩ := h.ok g
  rw [if_pos g, if_pos g]
  rw [g] at C1
  have HP := Lib.hid hp
  have HS0 := Lib.hid hok
  have HI := Lib.hid h.mem
  have HL0 := Lib.hid h.len
  obtain ⟨i0, hi, hz0, hz1, hz2⟩ := info_parts info_frac
  clear g h hp hok
  go_enter Tryz.func25, Tryz.ntmps25
  go_wp2_with fail
  ((with_reducible refine (C1.out.of hG hb).mono ?_); rintro e w1 ⟨rfl, hb1⟩)
  replace hb := bto hb hb1
  have HO := own_baseN (@World.ownsRow_made w1.heap.size 32 2 w1 #[] 0 (Nat.le_refl _) (Nat.zero_le _) (by simp)) hb.size
  replace hb := bto hb (below_alloc _ (.cells #[] 32))
  clear hb1 C1
  go_wp2_with fail
  go_loopw [4, 5] (fun vv iv wr => ∃ (k : Nat) (ys : List Rat), k + 1 ≤ n ∧ iv = .int .i64 ((k : Int) + 1) ∧ wr.ownsRow w.heap.size 32 2 vv k (rowsF (frs ys)) ∧ Hid (ys.length = k) ∧ Hid (ys ++ facs (pts (ts.drop k)) = facs (pts ts)) ∧ Below w.heap.size w wr) (fun _ iv _ => n + 1 - (intOf iv).toNat)
  case atStart => exact ⟨0, [], h1, rfl, HO, rfl, rfl, hb⟩
  case round =>
    clear hb HO
    obtain ⟨k, ys, hk, rfl, HO, HL, HQ, hb⟩ := hrel
    by_cases hlk : k + 1 < n
    rotate_left
    · have HE : Hid (ys = facs (pts ts)) := by
        have h1 := HQ.out
        rw [facs_end (by rw [HL0.out]; omega), List.append_nil] at h1
        exact h1
      have e1 : decide ((k : Int) + 1 < n) = false := decide_eq_false (by omega)
      have HO2 := Lib.hid HO
      clear HQ HO
      go_wp2
      refine bodyPost_ret (v := .tuple #[_, .int .i64 0]) (by simp [results, Tryz.results25, go_sem]; rfl) rfl ?_
      exact ⟨_, _, rfl, HE.out, by rw [HL.out]; exact HO2.out, hb⟩
    have e1 : decide ((k : Int) + 1 < n) = true := decide_eq_true (by omega)
    obtain ⟨t, ht⟩ : ∃ t, ts[k]? = some t := ⟨_, List.getElem?_eq_getElem (by rw [HL0.out]; omega)⟩
    obtain ⟨u, hu⟩ : ∃ u, ts[k + 1]? = some u := ⟨_, List.getElem?_eq_getElem (by rw [HL0.out]; omega)⟩
    have oT := HS0.out t (List.mem_of_getElem? ht)
    have oU := HS0.out u (List.mem_of_getElem? hu)
    have hpos := posL_at HP.out ht hu
    have HN := Lib.hid (facs_step ht hu)
    have hl1 := oT.lv
    have hl2 := oT.lf
    have hl3 := oU.lv
    have C1 := Lib.hid (qAdd (l := t.vl) (l' := t.fl) (by omega) (by omega) rfl)
    have hyl : (canon (val t.vl + val t.fl)).length ≤ 100 := Nat.le_trans (canon_len_le _ 62 (by have h1 := val_lt_of (l := t.vl) (k := 60) (by omega); have h2 := val_lt_of (l := t.fl) (k := 60) (by omega); have h3 := Int.natAbs_add_le (val t.vl) (val t.fl); have h4 : (10 : Nat) ^ 60 + 10 ^ 60 ≤ 10 ^ 62 := (by decide); omega)) (by decide)
    have C2 := Lib.hid (sNew1 (l := u.vl) (l' := canon (val t.vl + val t.fl)) (by omega) (by omega) (by rw [val_canon]; omega) (show fv _ _ = Rat.divInt (val u.vl) (val t.vl + val t.fl) by unfold fv; rw [val_canon]; unfold den1; rw [if_neg (by omega)]))
    obtain ⟨y, hy⟩ : ∃ y, y = Rat.divInt (val u.vl) (val t.vl + val t.fl) := ⟨_, rfl⟩
    rw [← hy] at C2 HN
    obtain ⟨sm, hsm⟩ : ∃ sm, sm = canon (val t.vl + val t.fl) := ⟨_, rfl⟩
    rw [← hsm] at C1 C2
    have HQ2 : Hid (ys ++ [y] ++ facs (pts (ts.drop (k + 1))) = facs (pts ts)) := by
      show _ = _
      rw [List.append_assoc, List.singleton_append, ← HN.out]; exact HQ.out
    have HL2 : Hid ((ys ++ [y]).length = k + 1) := by show _ = _; rw [List.length_append, HL.out]; rfl
    have HRow : Hid (rowsF (frs (ys ++ [y])) = rowsF (frs ys) ++ [.string ⟨(fN y).toArray⟩, .string ⟨(fD y).toArray⟩]) := by
      show _ = _
      unfold frs; rw [List.map_append, rowsF_app]; rfl
    obtain ⟨b, o, rfl, hbs, p0, p1, p2⟩ := (HI.out.below hb) k t ht
    obtain ⟨b', o', hA', hbs', -, r1, -⟩ := (HI.out.below hb) (k + 1) u hu
    obtain ⟨rfl, rfl⟩ : b = b' ∧ o = o' := by injection hA' with hA'; injection hA' with h1 h2; exact ⟨h1, h2⟩
    have hwr : IntKind.i64.wrap ((k : Int) + 1 - 1) = (k : Int) := by rw [Go.IntWalk.i64_in _ (by omega)]; omega
    have hwr2 : IntKind.i64.wrap (k : Int) = (k : Int) := Go.IntWalk.i64_in _ (by omega)
    have hko : k < n := by omega
    have k0 : (k : Int) + 1 - 1 = (k : Int) := by omega
    have k1 : ((k : Int) + 1).toNat = k + 1 := by omega
    have k2 : (k : Int) + 1 < n := by omega
    have k3 : (k : Int) < n := by omega
    have k4 : 0 ≤ (k : Int) + 1 := by omega
    have hGr := hG.below hb
    clear ht hu oT oU hpos hl1 hl2 hl3 hyl hy hsm HN HQ HL hbs' hA' p0
    go_wp2_with fail
    refine wp_region_kept (by kernel_rfl) (by kernel_rfl) ?_
    refine kept_val _ (fun _ => rfl) (fun ρ wz hw => by go_simp; first | done | with_reducible rfl) ?_
    simp only [Act.put, List.setIfInBounds_toArray, List.set_cons_zero, List.set_cons_succ, Nat.reduceAdd]
    refine kept_val _ (fun _ => rfl) (fun ρ wz hw => by go_simp; first | done | with_reducible rfl) ?_
    simp only [Act.put, List.setIfInBounds_toArray, List.set_cons_zero, List.set_cons_succ, Nat.reduceAdd]
    refine kept_val _ (fun _ => rfl) (fun ρ wz hw => by go_simp; first | done | with_reducible rfl) ?_
    simp only [Act.put, List.setIfInBounds_toArray, List.set_cons_zero, List.set_cons_succ, Nat.reduceAdd]
    refine kept_val _ (fun _ => rfl) (fun ρ wz hw => by go_simp; first | done | with_reducible rfl) ?_
    simp only [Act.put, List.setIfInBounds_toArray, List.set_cons_zero, List.set_cons_succ, Nat.reduceAdd]
    refine kept_val _ (fun _ => rfl) (fun ρ wz hw => by have q0 := (hw.cell (p := ⟨b, o + (k + 1) * 3 + 1, none⟩) hbs).trans r1; go_simp; first | done | with_reducible rfl) ?_
    simp only [Act.put, List.setIfInBounds_toArray, List.set_cons_zero, List.set_cons_succ, Nat.reduceAdd]
    refine kept_val _ (fun _ => rfl) (fun ρ wz hw => by go_simp; first | done | with_reducible rfl) ?_
    simp only [Act.put, List.setIfInBounds_toArray, List.set_cons_zero, List.set_cons_succ, Nat.reduceAdd]
    refine kept_val _ (fun _ => rfl) (fun ρ wz hw => by go_simp; first | done | with_reducible rfl) ?_
    simp only [Act.put, List.setIfInBounds_toArray, List.set_cons_zero, List.set_cons_succ, Nat.reduceAdd]
    refine kept_val _ (fun _ => rfl) (fun ρ wz hw => by go_simp; first | done | with_reducible rfl) ?_
    simp only [Act.put, List.setIfInBounds_toArray, List.set_cons_zero, List.set_cons_succ, Nat.reduceAdd]
    refine kept_val _ (fun _ => rfl) (fun ρ wz hw => by go_simp; first | done | with_reducible rfl) ?_
    simp only [Act.put, List.setIfInBounds_toArray, List.set_cons_zero, List.set_cons_succ, Nat.reduceAdd]
    refine kept_val _ (fun _ => rfl) (fun ρ wz hw => by go_simp; first | done | with_reducible rfl) ?_
    simp only [Act.put, List.setIfInBounds_toArray, List.set_cons_zero, List.set_cons_succ, Nat.reduceAdd]
    refine kept_val _ (fun _ => rfl) (fun ρ wz hw => by have q0 := (hw.cell (p := ⟨b, o + k * 3 + 1, none⟩) hbs).trans p1; go_simp; first | done | with_reducible rfl) ?_
    simp only [Act.put, List.setIfInBounds_toArray, List.set_cons_zero, List.set_cons_succ, Nat.reduceAdd]
    refine kept_val _ (fun _ => rfl) (fun ρ wz hw => by go_simp; first | done | with_reducible rfl) ?_
    simp only [Act.put, List.setIfInBounds_toArray, List.set_cons_zero, List.set_cons_succ, Nat.reduceAdd]
    refine kept_val _ (fun _ => rfl) (fun ρ wz hw => by go_simp; first | done | with_reducible rfl) ?_
    simp only [Act.put, List.setIfInBounds_toArray, List.set_cons_zero, List.set_cons_succ, Nat.reduceAdd]
    refine kept_val _ (fun _ => rfl) (fun ρ wz hw => by go_simp; first | done | with_reducible rfl) ?_
    simp only [Act.put, List.setIfInBounds_toArray, List.set_cons_zero, List.set_cons_succ, Nat.reduceAdd]
    refine kept_val _ (fun _ => rfl) (fun ρ wz hw => by go_simp; first | done | with_reducible rfl) ?_
    simp only [Act.put, List.setIfInBounds_toArray, List.set_cons_zero, List.set_cons_succ, Nat.reduceAdd]
    refine kept_val _ (fun _ => rfl) (fun ρ wz hw => by go_simp; first | done | with_reducible rfl) ?_
    simp only [Act.put, List.setIfInBounds_toArray, List.set_cons_zero, List.set_cons_succ, Nat.reduceAdd]
    refine kept_val _ (fun _ => rfl) (fun ρ wz hw => by have q0 := (hw.cell (p := ⟨b, o + k * 3 + 2, none⟩) hbs).trans p2; go_simp; first | done | with_reducible rfl) ?_
    simp only [Act.put, List.setIfInBounds_toArray, List.set_cons_zero, List.set_cons_succ, Nat.reduceAdd]
    refine kept_call _ _ _ (fun _ => rfl) (fun ρ wz hw => by go_simp; first | done | with_reducible rfl) (fun wz hw => C1.out.of hGr hw) ?_
    simp only [Act.put, List.setIfInBounds_toArray, List.set_cons_zero, List.set_cons_succ, Nat.reduceAdd]
    refine kept_call _ _ _ (fun _ => rfl) (fun ρ wz hw => by go_simp; first | done | with_reducible rfl) (fun wz hw => C2.out.of hGr hw) ?_
    simp only [Act.put, List.setIfInBounds_toArray, List.set_cons_zero, List.set_cons_succ, Nat.reduceAdd]
    refine kept_val _ (fun _ => rfl) (fun ρ wz hw => by go_simp; first | done | with_reducible rfl) ?_
    simp only [Act.put, List.setIfInBounds_toArray, List.set_cons_zero, List.set_cons_succ, Nat.reduceAdd]
    refine kept_val _ (fun _ => rfl) (fun ρ wz hw => by go_simp; first | done | with_reducible rfl) ?_
    simp only [Act.put, List.setIfInBounds_toArray, List.set_cons_zero, List.set_cons_succ, Nat.reduceAdd]
    refine kept_val _ (fun _ => rfl) (fun ρ wz hw => by go_simp; first | done | with_reducible rfl) ?_
    simp only [Act.put, List.setIfInBounds_toArray, List.set_cons_zero, List.set_cons_succ, Nat.reduceAdd]
    refine kept_box (fun b => .pointer (some ⟨b, 0, none⟩)) _ rfl (fun _ => rfl) (fun ρ wz hw => by go_simp; first | done | with_reducible rfl) ?_
    simp only [Act.put, List.setIfInBounds_toArray, List.set_cons_zero, List.set_cons_succ, Nat.reduceAdd]
    refine kept_put2 22 _ 6 _ _ _ _ _ rfl rfl rfl (by decide) (fun _ => rfl) (fun ρ wz hw q0 q1 q2 q3 => by go_simp; first | done | with_reducible rfl) ?_
    simp only [Act.put, Nat.reduceAdd]
    refine kept_val _ (fun _ => rfl) (fun ρ wz hw => by go_simp; first | done | with_reducible rfl) ?_
    simp only [Act.put, List.setIfInBounds_toArray, List.set_cons_zero, List.set_cons_succ, Nat.reduceAdd]
    refine kept_end (fun ρ w5 hF => ?_)
    have x6 := FBox.ofB (hF.box 22 _ _ rfl).2
    have hbF := hF.below
    (try dsimp only)
    generalize ρ 22 = b6 at *
    have HO5 := own_belowN HO hbF
    replace hb := bto hb hbF
    have g0 := x6.c0
    have g1 := x6.c1
    clear hF hbF HO p1 p2 r1 C1 C2
    go_wp2_with (at_builtin; refine wpList_append_own _ rfl _ _ 41 rfl w.heap.size 32 i0 (.agg #[.string ⟨#[]⟩, .string ⟨#[]⟩]) 2 32 Tryz.underlying41 hi hz0 hz1 hz2 rfl (by decide) _ _ _ rfl (own_belowN HO5 (below_alloc _ _)) ⟨w5.heap.size, 0, none⟩ 1 1 [.string ⟨(fN y).toArray⟩, .string ⟨(fD y).toArray⟩] rfl ?c1 ?c2 ?c3 ?c4 ?c5 ?c6 ?_)
    case c1 => rfl
    case c2 =>
      intro j u hu
      match j with
      | 0 => simp at hu; subst hu; rw [Lib.add_plain]; simp [go_sem]
      | 1 => simp at hu; subst hu; rw [Lib.add_plain]; simp [go_sem]
      | j + 2 => simp at hu
    case c3 =>
      intro u hu
      simp at hu
      rcases hu with rfl | rfl <;> rfl
    case c4 => unfold maxLen; omega
    case c5 => omega
    case c6 => have := hb.size; simp; omega
    intro v' w6 hown hgrow _
    have hbN := Lib.hid (Below.grown (bto hb (below_alloc w5 (.cells #[.string ⟨(fN y).toArray⟩, .string ⟨(fD y).toArray⟩] 32))) hgrow (by have := hb.size; simp; omega) (fun j hj => by
      rcases HO5.2 with ⟨e0, -⟩ | ⟨g, cap, cur, e0, hB, -⟩
      · rw [e0] at hj; cases hj
      · rw [e0] at hj; simp [Value.ownBlock] at hj; omega))
    rw [← HRow.out] at hown
    have HO6 := Lib.hid hown
    clear hown hgrow HO5 hb g0 g1 x6
    go_wp2
    go_roundw
    case rel => exact ⟨k + 1, ys ++ [y], by omega, by go_num, HO6.out, HL2.out, HQ2.out, hbN.out⟩
    case measure => simp [intOf]; omega
end Go.Proofs.YtmjglcgdcclinaaGreatDoor
