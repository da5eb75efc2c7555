/- MoneyweightedOf. -/
import Derived.Test.YtolbojchdlojnaaGreatDoorQb
namespace Go.Proofs.YtolbojchdlojnaaGreatDoor
open Go.RowKit Num
theorem sumL_app : ∀ (l : List PZ) (s : Int) (p : PZ), sumL s (l ++ [p]) = sumL s l + p.2
  | [], _, _ => rfl
  | q :: r, s, p => sumL_app r (s + q.2) p
theorem sum_take {T : List Pay} {k : Nat} {y : Pay} (h : T[k]? = some y) : sumL 0 (pzs (T.take (k + 1))) = sumL 0 (pzs (T.take k)) + val y.amt := by
  rw [← take_next h, pzs_app]
  exact sumL_app _ _ _
theorem ofR_el {n : Nat} : ∀ {i : Nat} {ts : List Pnt} (_ : ∀ t ∈ ts, (t.vl.length ≤ 13 ∧ t.fl.length ≤ 13) ∧ t.vl = canon (val t.vl)), ∀ q ∈ ofR n i ts, (q.amt = canon (val q.amt) ∧ q.amt.length ≤ 20) ∧ (i : Int) ≤ q.per ∧ q.per < (i : Int) + ts.length
  | _, [], _ => fun q hq => by cases hq
  | i, t :: r, h => fun q hq => by
    obtain ⟨⟨h1, h2⟩, h3⟩ := h t (List.mem_cons_self ..)
    rcases List.mem_cons.1 hq with rfl | hq
    · refine ⟨?_, by show (i : Int) ≤ (i : Int) ∧ (i : Int) < (i : Int) + ((r.length + 1 : Nat) : Int); omega⟩
      show ofA n i t = canon (val (ofA n i t)) ∧ (ofA n i t).length ≤ 20
      have a1 := val_lt_of h1
      have a2 := val_lt_of h2
      unfold ofA
      split
      · refine ⟨cfix _, Nat.le_trans (canon_len_le _ 14 ?_) (by decide)⟩
        have := Int.natAbs_add_le (val t.vl) (val t.fl)
        rw [Int.natAbs_neg]
        have h4 : (10 : Nat) ^ 13 + 10 ^ 13 ≤ 10 ^ 14 := (by decide)
        omega
      · split
        · exact ⟨h3, by omega⟩
        · refine ⟨cfix _, Nat.le_trans (canon_len_le _ 13 ?_) (by decide)⟩
          rw [Int.natAbs_neg]; exact a2
    · obtain ⟨e1, e2, e3⟩ := ofR_el (fun x hx => h x (List.mem_cons_of_mem _ hx)) q hq
      exact ⟨e1, by omega, by rw [List.length_cons]; omega⟩
theorem upL_less : ∀ {l : List PZ} {a a' : Int}, UpL a' l → a ≤ a' → UpL a l
  | [], _, _, _, _ => trivial
  | _ :: _, _, _, h, ha => ⟨Int.le_trans ha h.1, h.2⟩
theorem ofR_up {n : Nat} : ∀ {i : Nat} {ts : List Pnt}, UpL (i : Int) (pzs (ofR n i ts))
  | _, [] => trivial
  | i, _ :: r => ⟨Int.le_refl _, upL_less (ofR_up (n := n) (i := i + 1) (ts := r)) (by show (i : Int) ≤ ((i + 1 : Nat) : Int); omega)⟩
theorem pntL_canon : ∀ (ts : List Pnt) (o : Option Int), pntL o ts = 0 → ∀ t ∈ ts, t.vl = canon (val t.vl)
  | [], _, _ => fun t ht => by cases ht
  | p :: r, o, h => fun t ht => by
    unfold pntL at h
    by_cases g1 : dayB p.day = false
    · rw [if_pos g1] at h; cases h
    rw [if_neg g1] at h
    by_cases g2 : p.vl = canon (val p.vl)
    rotate_left
    · rw [if_pos g2] at h; cases h
    rw [if_neg (fun h => h g2)] at h
    by_cases g3 : ¬ p.fl = canon (val p.fl)
    · rw [if_pos g3] at h; cases h
    rw [if_neg g3] at h
    by_cases g4 : ordB o p.day = true
    · rw [if_pos g4] at h; cases h
    rw [if_neg g4] at h
    by_cases g5 : val p.vl < 0
    · rw [if_pos g5] at h; cases h
    rw [if_neg g5] at h
    by_cases g6 : r ≠ [] ∧ val p.vl + val p.fl ≤ 0
    · rw [if_pos g6] at h; cases h
    rw [if_neg g6] at h
    rcases List.mem_cons.1 ht with rfl | ht
    · exact g2
    · exact pntL_canon r _ h t ht
/-- what the law needs of points that Of takes -/
theorem of_ok {ts : List Pnt} {n : Nat} (hn : ts.length = n) (hs : ∀ t ∈ ts, t.vl.length ≤ 13 ∧ t.fl.length ≤ 13) (h0 : ofE ts = 0) : 2 ≤ n ∧ n ≤ 64 ∧ payE (ofR n 0 ts) = 0 ∧ (∀ q ∈ ofR n 0 ts, q.amt.length ≤ 1000) ∧ ofP ts = ofR n 0 ts := by
  have hp : ofP ts = ofR n 0 ts := by unfold ofP; rw [if_pos h0, hn]
  unfold ofE at h0
  by_cases g0 : pntE ts = 0
  rotate_left
  · rw [if_pos g0] at h0; cases h0
  rw [if_neg (fun h => h g0)] at h0
  by_cases g1 : ts.length < 2
  · rw [if_pos g1] at h0; cases h0
  rw [if_neg g1] at h0
  by_cases g2 : 64 < ts.length
  · rw [if_pos g2] at h0; cases h0
  have hc : pntL none ts = 0 := by unfold pntE at g0; rwa [if_neg (by omega)] at g0
  have hel := ofR_el (n := n) (i := 0) (ts := ts) (fun t ht => ⟨hs t ht, pntL_canon ts none hc t ht⟩)
  refine ⟨by omega, by omega, ?_, fun q hq => Nat.le_trans (hel q hq).1.2 (by decide), hp⟩
  unfold payE
  rw [ofR_len, if_neg (by omega), if_neg (by omega)]
  exact payL_of_up _ none 0 (ofR_up (i := 0)) (fun q hq => by cases hq) (fun q hq => ⟨by have := (hel q hq).2.1; omega, by have := (hel q hq).2.2; omega, (hel q hq).1.1⟩)
/-- the running difference -/
def Wt (n : Nat) (ts : List Pnt) (v0 vl W : Int) (k : Nat) : Prop := (k = 0 ∧ W = vl - v0) ∨ (0 < k ∧ W = vl + sumL 0 (pzs ((ofR n 0 ts).take k)))
theorem Wt.step {n : Nat} {ts : List Pnt} {v0 vl W : Int} {k : Nat} {t : Pnt} (h : Wt n ts v0 vl W k) (ht : ts[k]? = some t) (hk : k + 1 < n) (h0 : k = 0 → val t.vl = v0) : Wt n ts v0 vl (W - val t.fl) (k + 1) := by
  refine .inr ⟨Nat.succ_pos _, ?_⟩
  have hz := ofR_at n (i := 0) ht
  rw [sum_take hz, Nat.zero_add]
  show W - val t.fl = vl + (sumL 0 (pzs ((ofR n 0 ts).take k)) + val (ofA n k t))
  unfold ofA
  rcases h with ⟨rfl, hW⟩ | ⟨hk0, hW⟩
  · rw [if_pos rfl, val_canon]
    have := h0 rfl
    show _ = vl + (0 + _)
    omega
  · rw [if_neg (by omega), if_neg (by omega), val_canon]
    omega
theorem Wt.done {n : Nat} {ts : List Pnt} {v0 W : Int} {z : Pnt} (h : Wt n ts v0 (val z.vl) W (n - 1)) (hn : ts.length = n) (h2 : 2 ≤ n) (hz : ts[n - 1]? = some z) : sumL 0 (pzs (ofR n 0 ts)) = W := by
  have hz2 := ofR_at n (i := 0) hz
  have hs := sum_take hz2
  rw [show n - 1 + 1 = n by omega, List.take_of_length_le (by rw [ofR_len]; omega)] at hs
  rw [hs]
  show _ + val (ofA n (0 + (n - 1)) z) = _
  unfold ofA
  rw [if_neg (by omega), if_pos (by omega)]
  rcases h with ⟨h1, -⟩ | ⟨-, h1⟩
  · omega
  · omega
set_option maxHeartbeats 8000000 in
set_option maxRecDepth 100000 in
theorem mof_law (A : Option Addr) (ts : List Pnt) (n c : Nat) (w : World) (hG : Glob w) (hn : ts.length = n) (hnc : n ≤ c) (hnm : n ≤ 9223372036854775807) (h : PntAt w A ts) :
    Calls Tryz.prog 11 #[.slice A n c] w fun e w' => e = .returned (.bool true) ∧ Below w.heap.size w w' := by
  have CW := Lib.hid wAwake47
  have HI := Lib.hid h
  have CG := Lib.hid (gPoints A ts n c w hG hn hnm h)
  clear h
  go_enter Tryz.func11, Tryz.ntmps11
  go_wp2_with fail
  refine CG.out.mono ?_
  rintro e w1 ⟨g, rfl, hgd, hb⟩
  clear CG
  cases g
  rotate_left
  · clear hgd
    go_wp2_with fail
    ((with_reducible refine (CW.out.of hG hb).mono ?_); rintro e w2 ⟨rfl, hb2⟩)
    go_wp2
    go_ret
    exact ⟨rfl, bto hb hb2⟩
  obtain ⟨hn8, hs⟩ := hgd rfl
  have HS := Lib.hid hs
  have hn67 : n ≤ 67 := by omega
  have C1 := Lib.hid (twOf A ts n c w1 (hG.below hb) hn hn67 hs (HI.out.below hb))
  clear hgd hs hn8 hnm
  go_wp2_with fail
  refine C1.out.mono ?_
  rintro e w2 ⟨v1, rfl, R1, hb2⟩
  replace hb := bto hb hb2
  clear hb2 C1
  have C2 := Lib.hid (rwOf A ts n c w2 (hG.below hb) hn hn67 HS.out (HI.out.below hb))
  obtain ⟨L, hL⟩ : ∃ L, (ofP ts).length = L := ⟨_, rfl⟩
  have hL64 : L ≤ 67 := by
    rw [← hL]; unfold ofP
    split
    · rw [ofR_len]; omega
    · exact Nat.zero_le _
  obtain ⟨B1, cp1, e1⟩ := R1.formN hL
  subst e1
  have HPa : Hid (PayAt w2 B1 (ofP ts)) := R1.payAt rfl
  clear R1
  go_wp2_with fail
  refine C2.out.mono ?_
  rintro e w3 ⟨v2, rfl, R2, hb3⟩
  obtain ⟨B2, cp2, e2⟩ := R2.formN hL
  subst e2
  have C3 := Lib.hid (rSame B1 B2 (ofP ts) L cp1 cp2 w3 hL (by omega) (HPa.out.below hb3) (R2.payAt rfl))
  replace hb := bto hb hb3
  have hPb := HPa.out.below hb3
  have HPb := Lib.hid hPb
  clear C2 R2 hb3 HPa hPb
  have HL := Lib.hid hL
  clear hL
  by_cases g0 : ofE ts = 0
  rotate_left
  · have e1 : (ofE ts != 0) = true := bneq' (intbne g0)
    generalize ofE ts = E at *
    clear g0 hn
    go_wp2_with fail
    ((with_reducible refine C3.out.mono ?_); rintro e w4 ⟨rfl, hb4⟩)
    replace hb := bto hb hb4
    clear C3
    go_wp2_with fail
    ((with_reducible refine (CW.out.of hG hb).mono ?_); rintro e w5 ⟨rfl, hb5⟩)
    go_wp2
    go_ret
    exact ⟨rfl, bto hb hb5⟩
  obtain ⟨h2, h64, hok, ham, hP⟩ := of_ok hn HS.out g0
  rw [g0]
  have hLn : L = n := by rw [← HL.out, hP, ofR_len, hn]
  subst hLn
  rw [hP] at HPb
  have HTl := Lib.hid (ofR_len L 0 ts)
  have HOk := Lib.hid hok
  have HPL : Hid (PL w3 B1 (ofR L 0 ts) L) := ⟨HPb.out, HTl.out.trans hn, ham, by omega⟩
  obtain ⟨z, hz⟩ : ∃ z, ts[L - 1]? = some z := ⟨_, List.getElem?_eq_getElem (by omega)⟩
  obtain ⟨a, ha⟩ : ∃ a, ts[0]? = some a := ⟨_, List.getElem?_eq_getElem (by omega)⟩
  have HZ := Lib.hid hz
  have HA := Lib.hid ha
  have HN := Lib.hid hn
  obtain ⟨b, o, hAb, hbs, z0, z1, z2⟩ := (HI.out) (L - 1) z hz
  obtain ⟨b', o', hAb', hbs', a0, a1, a2⟩ := (HI.out) 0 a ha
  subst hAb
  obtain ⟨rfl, rfl⟩ : b = b' ∧ o = o' := by injection hAb' with hAb'; injection hAb' with h1 h2; exact ⟨h1, h2⟩
  obtain ⟨hzv, hzf⟩ := HS.out z (List.mem_of_getElem? hz)
  obtain ⟨hav, haf⟩ := HS.out a (List.mem_of_getElem? ha)
  clear hAb' z0 z2 a0 a2 g0 hP ham hok hz ha hn hbs' HL HPb
  go_wp2_with fail
  ((with_reducible refine C3.out.mono ?_); rintro e w4 ⟨rfl, hb4⟩)
  have C4 := Lib.hid (mwProfit B1 (ofR L 0 ts) L cp1 w4 (hG.below (bto hb hb4)) (HPL.out.below hb4))
  replace hb := bto hb hb4
  have hpv : profV (ofR L 0 ts) = .tuple #[.string ⟨(canon (sumL 0 (pzs (ofR L 0 ts)))).toArray⟩, .int .i64 0] := if_pos HOk.out
  rw [hpv] at C4
  clear C3 hb4 hpv HPL
  obtain ⟨Sm, hSm⟩ : ∃ Sm, Sm = sumL 0 (pzs (ofR L 0 ts)) := ⟨_, rfl⟩
  rw [← hSm] at C4
  have HSm := Lib.hid hSm
  clear hSm
  go_wp2_with fail
  ((with_reducible refine C4.out.mono ?_); rintro e w5 ⟨rfl, hb5⟩)
  replace hb := bto hb hb5
  clear C4 hb5
  obtain ⟨n', hn'⟩ : ∃ n', L = n' + 1 := ⟨L - 1, by omega⟩
  subst hn'
  rw [Nat.add_sub_cancel] at z1
  have hwr : IntKind.i64.wrap (n' : Int) = (n' : Int) := Go.IntWalk.i64_in _ (by omega)
  have hwl : (n' : Int) < (n' : Int) + 1 := by omega
  have hw0 : (0 : Int) < (n' : Int) + 1 := by omega
  have hcc : n' ≤ c := by omega
  have CS := Lib.hid (niSub (l := z.vl) (l' := a.vl) (by omega) (by omega) (rfl : val z.vl - val a.vl = _))
  have HW : Hid (Wt (n' + 1) ts (val a.vl) (val z.vl) (val z.vl - val a.vl) 0) := .inl ⟨rfl, rfl⟩
  have W0_lt : (val z.vl - val a.vl).natAbs < 10 ^ (14 + 0) := by
    have h1 := val_lt_of hzv
    have h2 := val_lt_of hav
    have h3 := Int.natAbs_sub_le (val z.vl) (val a.vl)
    have h4 : (10 : Nat) ^ 13 + 10 ^ 13 ≤ 10 ^ (14 + 0) := (by decide)
    omega
  obtain ⟨W0, hW0⟩ : ∃ W0, W0 = val z.vl - val a.vl := ⟨_, rfl⟩
  rw [← hW0] at CS HW W0_lt
  have HW0l := Lib.hid W0_lt
  clear hW0 W0_lt
  go_wp2_with fail
  refine wp_region_kept (by kernel_rfl) (by kernel_rfl) ?_
  refine kept_val _ (fun _ => rfl) (fun ρ w hw => by go_simp; first | done | with_reducible rfl) ?_
  simp only [Act.put, List.setIfInBounds_toArray, List.set_cons_zero, List.set_cons_succ, Nat.reduceAdd]
  refine kept_val _ (fun _ => rfl) (fun ρ w hw => by go_simp; first | done | with_reducible rfl) ?_
  simp only [Act.put, List.setIfInBounds_toArray, List.set_cons_zero, List.set_cons_succ, Nat.reduceAdd]
  refine kept_val _ (fun _ => rfl) (fun ρ w hw => by go_simp; first | done | with_reducible rfl) ?_
  simp only [Act.put, List.setIfInBounds_toArray, List.set_cons_zero, List.set_cons_succ, Nat.reduceAdd]
  refine kept_val _ (fun _ => rfl) (fun ρ w hw => by go_simp; first | done | with_reducible rfl) ?_
  simp only [Act.put, List.setIfInBounds_toArray, List.set_cons_zero, List.set_cons_succ, Nat.reduceAdd]
  refine kept_val _ (fun _ => rfl) (fun ρ w hw => by go_simp; first | done | with_reducible rfl) ?_
  simp only [Act.put, List.setIfInBounds_toArray, List.set_cons_zero, List.set_cons_succ, Nat.reduceAdd]
  refine kept_val _ (fun _ => rfl) (fun ρ w hw => by go_simp; first | done | with_reducible rfl) ?_
  simp only [Act.put, List.setIfInBounds_toArray, List.set_cons_zero, List.set_cons_succ, Nat.reduceAdd]
  refine kept_val _ (fun _ => rfl) (fun ρ w hw => by have q0 := ((bto hb hw).cell (p := ⟨b, o + n' * 3 + 1, none⟩) hbs).trans z1; go_simp; first | done | with_reducible rfl) ?_
  simp only [Act.put, List.setIfInBounds_toArray, List.set_cons_zero, List.set_cons_succ, Nat.reduceAdd]
  refine kept_val _ (fun _ => rfl) (fun ρ w hw => by go_simp; first | done | with_reducible rfl) ?_
  simp only [Act.put, List.setIfInBounds_toArray, List.set_cons_zero, List.set_cons_succ, Nat.reduceAdd]
  refine kept_val _ (fun _ => rfl) (fun ρ w hw => by go_simp; first | done | with_reducible rfl) ?_
  simp only [Act.put, List.setIfInBounds_toArray, List.set_cons_zero, List.set_cons_succ, Nat.reduceAdd]
  refine kept_val _ (fun _ => rfl) (fun ρ w hw => by go_simp; first | done | with_reducible rfl) ?_
  simp only [Act.put, List.setIfInBounds_toArray, List.set_cons_zero, List.set_cons_succ, Nat.reduceAdd]
  refine kept_val _ (fun _ => rfl) (fun ρ w hw => by have q0 := ((bto hb hw).cell (p := ⟨b, o + 0 * 3 + 1, none⟩) hbs).trans a1; simp only [Nat.zero_mul, Nat.add_zero] at q0; go_simp; first | done | with_reducible rfl) ?_
  simp only [Act.put, List.setIfInBounds_toArray, List.set_cons_zero, List.set_cons_succ, Nat.reduceAdd]
  refine kept_call _ _ _ (fun _ => rfl) (fun ρ w hw => by go_simp; first | done | with_reducible rfl) (fun w hw => CS.out.of hG (bto hb hw)) ?_
  simp only [Act.put, List.setIfInBounds_toArray, List.set_cons_zero, List.set_cons_succ, Nat.reduceAdd]
  refine kept_val _ (fun _ => rfl) (fun ρ w hw => by go_simp; first | done | with_reducible rfl) ?_
  simp only [Act.put, List.setIfInBounds_toArray, List.set_cons_zero, List.set_cons_succ, Nat.reduceAdd]
  refine kept_end (fun ρ w6 hF => ?_)
  have hb6 := hF.below
  replace hb := bto hb hb6
  clear hF hb6 CS z1 a1
  go_wp2_with fail
  go_loopw [9, 60] (fun wv iv wr => ∃ (k : Nat) (W : Int), k ≤ n' ∧ iv = .int .i64 (k : Int) ∧ wv = .string ⟨(canon W).toArray⟩ ∧ Hid (W.natAbs < 10 ^ (14 + k)) ∧ Hid (Wt (n' + 1) ts (val a.vl) (val z.vl) W k) ∧ Below w.heap.size w wr) (fun _ iv _ => n' - (intOf iv).toNat)
  case atStart => exact ⟨0, W0, Nat.zero_le _, rfl, rfl, HW0l.out, HW.out, hb⟩
  case round =>
    clear hb HW
    obtain ⟨k, W, hk, rfl, rfl, HWl, HW, hb⟩ := hrel
    have hnl := HN.out
    by_cases hlk : k < n'
    · obtain ⟨t, ht⟩ : ∃ t, ts[k]? = some t := ⟨_, List.getElem?_eq_getElem (by omega)⟩
      obtain ⟨b', o', hA', hbs', p0, p1, p2⟩ := (HI.out.below hb) k t ht
      obtain ⟨rfl, rfl⟩ : b = b' ∧ o = o' := by injection hA' with hA'; injection hA' with h1 h2; exact ⟨h1, h2⟩
      obtain ⟨hv13, hf13⟩ := HS.out t (List.mem_of_getElem? ht)
      have HW2 := Lib.hid (HW.out.step ht (by omega) (fun h => by subst h; rw [HA.out] at ht; injection ht with ht; rw [ht]))
      have HWl2 : Hid ((W - val t.fl).natAbs < 10 ^ (14 + (k + 1))) := by
        have h1 := HWl.out
        have h2 : (val t.fl).natAbs < 10 ^ 14 := Nat.lt_trans (val_lt_of hf13) (by decide)
        show _ < _
        rw [Int.sub_eq_add_neg]
        exact abs_step h1 (by rw [Int.natAbs_neg]; exact h2)
      have CS := Lib.hid (niSub (l := canon W) (l' := t.fl) (Nat.le_trans (canon_len_le _ _ HWl.out) (by omega)) (by omega) (show _ = W - val t.fl by rw [val_canon]))
      obtain ⟨W2, hW2⟩ : ∃ W2, W2 = W - val t.fl := ⟨_, rfl⟩
      rw [← hW2] at CS HW2 HWl2
      clear hW2 HW HWl ht hA' hbs'
      have hbA := below_alloc wr (.cells #[.int .i64 t.day, .string ⟨t.vl.toArray⟩, .string ⟨t.fl.toArray⟩] 86)
      have x11 := Blk.new wr #[.int .i64 t.day, .string ⟨t.vl.toArray⟩, .string ⟨t.fl.toArray⟩] 86
      replace hb := bto hb hbA
      clear hbA
      have q0 := x11.c 0
      have q1 := x11.c 1
      have q2 := x11.c 2
      go_wp2_with fail
      ((with_reducible refine (CS.out.of hG hb).mono ?_); rintro e w8 ⟨rfl, hb8⟩)
      replace hb := bto hb hb8
      clear hb8 CS q0 q1 q2 p0 p1 p2 x11
      go_wp2
      go_roundw
      case rel => exact ⟨k + 1, W2, by omega, by go_num, rfl, HWl2.out, HW2.out, hb⟩
      case measure => simp [intOf]; omega
    · obtain rfl : k = n' := by omega
      have hd := HW.out.done hnl (by omega) HZ.out
      have hE : W = Sm := by rw [← hd, HSm.out]
      subst hE
      clear hd HW HWl HSm
      go_wp2_with fail
      ((with_reducible refine (CW.out.of hG hb).mono ?_); rintro e w9 ⟨rfl, hb9⟩)
      go_wp2
      go_ret
      exact ⟨rfl, bto hb hb9⟩
end Go.Proofs.YtolbojchdlojnaaGreatDoor
