/- The value of payments: trancheref47. -/
import Derived.Test.YtolbojchdlojnaaGreatDoorWc
namespace Go.Proofs.YtolbojchdlojnaaGreatDoor
open Go.RowKit Num
set_option maxHeartbeats 2000000 in
set_option maxRecDepth 100000 in
theorem mrPower {q r : Rat} {K m : Nat} (hq : Bd K q) (hm : K * m + K ≤ 890) (hm4 : m ≤ 400) (er : q ^ m = r) : Ret 126 #[(Value.agg #[Value.string ⟨List.toArray (fN q)⟩, Value.string ⟨List.toArray (fD q)⟩]), .int .i64 (m : Int)] (Value.agg #[Value.string ⟨List.toArray (fN r)⟩, Value.string ⟨List.toArray (fD r)⟩]) := fun w hG => by
  have HR0 := Lib.hid er
  clear er
  have hK : K ≤ 890 := by omega
  have c1 := sOf (l := [49]) (by decide) (show Rat.divInt (val [49]) 1 = 1 by decide +kernel)
  have C1 := Lib.hid c1
  have HM : Hid (∀ k, k < m → Ret 125 #[(Value.agg #[Value.string ⟨List.toArray (fN (q ^ k))⟩, Value.string ⟨List.toArray (fD (q ^ k))⟩]), (Value.agg #[Value.string ⟨List.toArray (fN q)⟩, Value.string ⟨List.toArray (fD q)⟩])] (Value.agg #[Value.string ⟨List.toArray (fN (q ^ (k + 1)))⟩, Value.string ⟨List.toArray (fD (q ^ (k + 1)))⟩])) := fun k hk => by
    have b1 := bd_len (bd_pow hq k)
    have b2 := bd_len hq
    have h1 : K * k ≤ K * m := Nat.mul_le_mul_left K (Nat.le_of_lt hk)
    have h2 : K * k + K ≤ 890 := by omega
    exact sMul (by omega) (by omega) (by omega) (by omega) (by rw [fv_frac, fv_frac, Rat.pow_succ])
  have x2 := (FBox.new w (.string ⟨(fN q).toArray⟩) (.string ⟨(fD q).toArray⟩) 30).below (below_alloc _ (.cells #[.string ⟨#[]⟩, .string ⟨#[]⟩] 30))
  have x4 := FBox.new (w.alloc (.cells #[.string ⟨(fN q).toArray⟩, .string ⟨(fD q).toArray⟩] 30)) (.string ⟨#[]⟩) (.string ⟨#[]⟩) 30
  have hb := bto (below_alloc w (.cells #[.string ⟨(fN q).toArray⟩, .string ⟨(fD q).toArray⟩] 30)) (below_alloc _ (.cells #[.string ⟨#[]⟩, .string ⟨#[]⟩] 30))
  simp only [World.size_alloc] at x4
  clear c1 hm hK hq
  go_enter Tryz.func126, Tryz.ntmps126
  go_wp2_with fail
  ((with_reducible refine (C1.out.of hG hb).mono ?_); rintro e w2 ⟨rfl, hb2⟩)
  replace x2 := x2.below hb2
  replace x4 := x4.below hb2
  replace hb := bto hb hb2
  have hbA := below_alloc w2 (.cells #[.string ⟨(fN 1).toArray⟩, .string ⟨(fD 1).toArray⟩] 30)
  have x5 := FBox.new w2 (.string ⟨(fN 1).toArray⟩) (.string ⟨(fD 1).toArray⟩) 30
  replace x2 := x2.below hbA
  replace x4 := x4.below hbA
  have hsz : w.heap.size + 1 < w2.heap.size := by have h1 := hb2.size; simp at h1; omega
  replace hb := bto hb hbA
  clear hbA hb2 C1
  go_wp2_with fail
  go_loopw [6] (fun iv wr => ∃ k : Nat, k ≤ m ∧ iv = .int .i64 (k : Int) ∧ FBox wr w.heap.size (.string ⟨(fN q).toArray⟩) (.string ⟨(fD q).toArray⟩) ∧ FBox wr (w.heap.size + 1) (.string ⟨#[]⟩) (.string ⟨#[]⟩) ∧ FBox wr w2.heap.size (.string ⟨(fN (q ^ k)).toArray⟩) (.string ⟨(fD (q ^ k)).toArray⟩) ∧ Below w.heap.size w wr) (fun iv _ => m - (intOf iv).toNat)
  case atStart => exact ⟨0, Nat.zero_le _, rfl, x2, x4, by rw [Rat.pow_zero]; exact x5, hb⟩
  case round =>
    clear x2 x4 x5 hb
    obtain ⟨k, hk, rfl, y2, y4, y5, hb⟩ := hrel
    by_cases hlk : k < m
    · have C2 := Lib.hid (HM.out k hlk)
      obtain ⟨r, hr⟩ : ∃ r, r = q ^ k := ⟨_, rfl⟩
      obtain ⟨r', hr'⟩ : ∃ r', r' = q ^ (k + 1) := ⟨_, rfl⟩
      rw [← hr, ← hr'] at C2
      rw [← hr] at y5
      have HR := Lib.hid hr'
      clear hr hr' HM
      have q0 := y5.c0
      have q1 := y5.c1
      have q2 := y2.c0
      have q3 := y2.c1
      go_wp2_with fail
      ((with_reducible refine (C2.out.of hG hb).mono ?_); rintro e w3 ⟨rfl, hb3⟩)
      clear q0 q1 q2 q3
      have hn3 : w.heap.size ≠ w2.heap.size := by omega
      have hn4 : w.heap.size + 1 ≠ w2.heap.size := by omega
      replace y5 := y5.below hb3
      have g0 := y5.c0
      have g1 := y5.c1
      have g2 := y5.f0
      have g3 := y5.f1
      go_wp2
      replace y2 := (y2.below hb3).setNe hn3 (.string ⟨(fN r').toArray⟩) (.string ⟨(fD r').toArray⟩)
      replace y4 := (y4.below hb3).setNe hn4 (.string ⟨(fN r').toArray⟩) (.string ⟨(fD r').toArray⟩)
      replace hb := below_set2 (b := w2.heap.size) (bto hb hb3) (by omega) (.string ⟨(fN r').toArray⟩) (.string ⟨(fD r').toArray⟩)
      replace y5 := y5.set (.string ⟨(fN r').toArray⟩) (.string ⟨(fD r').toArray⟩)
      clear g0 g1 g2 g3
      go_roundw
      case rel => exact ⟨k + 1, by omega, by go_num, y2, y4, by rw [← HR.out]; exact y5, hb⟩
      case measure => simp [intOf]; omega
    · obtain rfl : k = m := by omega
      rw [HR0.out] at y5
      have q0 := y5.c0
      have q1 := y5.c1
      have g0 := y4.c0
      have g1 := y4.c1
      have g2 := y4.f0
      have g3 := y4.f1
      clear HM
      go_wp2
      have hy := y4.set (.string ⟨(fN r).toArray⟩) (.string ⟨(fD r).toArray⟩)
      have d0 := hy.c0
      have d1 := hy.c1
      refine bodyPost_ret (v := (Value.agg #[Value.string ⟨List.toArray (fN r)⟩, Value.string ⟨List.toArray (fD r)⟩])) (by simp [results, Tryz.results126, go_sem, d0, d1]) rfl ?_
      exact ⟨rfl, below_set2 hb (by omega) _ _⟩
set_option maxHeartbeats 4000000 in
set_option maxRecDepth 100000 in
theorem mrValueOf {ps : List Pay} {q : Rat} {K M : Nat} {a0 E : Int} (A : Option Addr) (n c : Nat) (w : World) (hG : Glob w) (hn : ps.length = n) (hV : ValOk ps q K M a0 E) {t0 : Pay} (h0 : ps[0]? = some t0) (_ha0 : t0.per = a0) (h : PayAt w A ps) :
    Calls Tryz.prog 81 #[.slice A n c, (Value.agg #[Value.string ⟨List.toArray (fN q)⟩, Value.string ⟨List.toArray (fD q)⟩])] w fun e w' => e = .returned (Value.agg #[Value.string ⟨List.toArray (fN (valQ q (pzs ps)))⟩, Value.string ⟨List.toArray (fD (valQ q (pzs ps)))⟩]) ∧ Below w.heap.size w w' := by
  obtain ⟨b, o, rfl, hbs, p00, p01⟩ := h 0 t0 h0
  have hn0 : 0 < n := by have := (List.getElem?_eq_some_iff.1 h0).1; omega
  have hnB : n ≤ 800 := by have h1 := hV.lim; have h2 := hV.m1; have h3 : ps.length * 1 ≤ ps.length * (M + 3) := Nat.mul_le_mul_left _ (by omega); omega
  have HI := Lib.hid h
  have HV := Lib.hid hV
  obtain ⟨R, hR⟩ : ∃ R, R = valQ q (pzs ps) := ⟨_, rfl⟩
  have HS : Hid (hv q 0 a0 (pzs (ps.drop 0)) = R) := by show _ = _; rw [hR]; exact val_start
  have HB0 : Hid (Bd 1 (0 : Rat)) := bd0
  have HL0 : Hid (1 + K * (E - a0).toNat + (n - 0) * (M + 3) ≤ 800) := by have := hV.lim; show _ ≤ _; rw [hn] at this; rw [Nat.sub_zero]; omega
  have HU0 : Hid (UpL a0 (pzs (ps.drop 0))) := hV.up
  have hn1 : ps.length ≤ n := by omega
  have hn2 : n ≤ ps.length := by omega
  have ha00 := hV.nn
  rw [← hR]
  have x3 := ((FBox.new w (.string ⟨(fN q).toArray⟩) (.string ⟨(fD q).toArray⟩) 30).below (below_alloc _ (.cells #[.string ⟨#[]⟩, .string ⟨#[]⟩] 30))).below (below_alloc _ (.cells #[.string ⟨#[]⟩, .string ⟨#[]⟩] 30))
  have x4 := (FBox.new (w.alloc (.cells #[.string ⟨(fN q).toArray⟩, .string ⟨(fD q).toArray⟩] 30)) (.string ⟨#[]⟩) (.string ⟨#[]⟩) 30).below (below_alloc _ (.cells #[.string ⟨#[]⟩, .string ⟨#[]⟩] 30))
  have x5 := FBox.new ((w.alloc (.cells #[.string ⟨(fN q).toArray⟩, .string ⟨(fD q).toArray⟩] 30)).alloc (.cells #[.string ⟨#[]⟩, .string ⟨#[]⟩] 30)) (.string ⟨#[]⟩) (.string ⟨#[]⟩) 30
  have hb := bto (below_alloc w (.cells #[.string ⟨(fN q).toArray⟩, .string ⟨(fD q).toArray⟩] 30)) (bto (below_alloc _ (.cells #[.string ⟨#[]⟩, .string ⟨#[]⟩] 30)) (below_alloc _ (.cells #[.string ⟨#[]⟩, .string ⟨#[]⟩] 30)))
  simp only [World.size_alloc] at x4 x5
  clear p00 p01 hn hV h hR h0
  go_enter Tryz.func81, Tryz.ntmps81
  go_wp2_with fail
  go_loopw [6] (fun iv wr => ∃ (k T : Nat) (a : Int) (s : Rat), k ≤ n ∧ iv = .int .i64 (k : Int) ∧ 0 ≤ a ∧ Hid ((k = 0 → s = 0) ∧ ∀ j u, k = j + 1 → ps[j]? = some u → u.per = a) ∧ Hid (hv q s a (pzs (ps.drop k)) = R) ∧ Hid (Bd T s) ∧ Hid (T + K * (E - a).toNat + (n - k) * (M + 3) ≤ 800) ∧ Hid (UpL a (pzs (ps.drop k))) ∧ FBox wr w.heap.size (.string ⟨(fN q).toArray⟩) (.string ⟨(fD q).toArray⟩) ∧ FBox wr (w.heap.size + 1) (.string ⟨#[]⟩) (.string ⟨#[]⟩) ∧ FBox wr (w.heap.size + 1 + 1) (.string ⟨(fN s).toArray⟩) (.string ⟨(fD s).toArray⟩) ∧ Below w.heap.size w wr) (fun iv _ => n - (intOf iv).toNat)
  case atStart => exact ⟨0, 1, a0, 0, Nat.zero_le _, rfl, ha00, ⟨fun _ => rfl, fun j u h => by omega⟩, HS.out, HB0.out, HL0.out, HU0.out, x3, x4, by rw [fN0, fD0]; exact x5, hb⟩
  case round =>
    clear x3 x4 x5 hb HS HB0 HL0 HU0 ha00
    obtain ⟨k, T, a, s, hk, rfl, hz, HK, HS, HB, HL, HU, y3, y4, y5, hb⟩ := hrel
    by_cases hlk : k < n
    rotate_left
    · have hq : s = R := by have := HS.out; rwa [val_end (by omega)] at this
      subst hq
      have q0 := y5.c0
      have q1 := y5.c1
      have g0 := y4.c0
      have g1 := y4.c1
      have g2 := y4.f0
      have g3 := y4.f1
      clear HS HB HL HU HK
      go_wp2
      have hy := y4.set (.string ⟨(fN s).toArray⟩) (.string ⟨(fD s).toArray⟩)
      have d0 := hy.c0
      have d1 := hy.c1
      refine bodyPost_ret (v := (Value.agg #[Value.string ⟨List.toArray (fN s)⟩, Value.string ⟨List.toArray (fD s)⟩])) (by simp [results, Tryz.results81, go_sem, d0, d1]) rfl ?_
      exact ⟨rfl, below_set2 hb (by omega) _ _⟩
    obtain ⟨t, ht⟩ : ∃ t, ps[k]? = some t := ⟨_, List.getElem?_eq_getElem (by omega)⟩
    obtain ⟨m1, m2, m3, m4⟩ := HV.out.mem t (List.mem_of_getElem? ht)
    obtain ⟨u1, u2⟩ := up_next ht HU.out
    obtain ⟨D, T1, l1, l2, l3, b1, b2, b3, T2, l4, b4, l5⟩ := bd_step (j := n - (k + 1)) HV.out.bd HV.out.m1 HB.out u1 m2 m3 (by have := HL.out; rwa [show n - (k + 1) + 1 = n - k by omega])
    have HN := Lib.hid ((hv_next q s a ht).symm.trans HS.out)
    have hk8 := HV.out.k
    have he4 := HV.out.e4
    have hT : T ≤ 800 := by have := HL.out; omega
    have hKd : K * (t.per - a).toNat ≤ 800 := by have h1 := HL.out; have h2 : K * (t.per - a).toNat ≤ K * (E - a).toNat := Nat.mul_le_mul_left K (by omega); omega
    obtain ⟨b', o', hA, hbs', p0, p1⟩ := (HI.out.below hb) k t ht
    obtain ⟨rfl, rfl⟩ : b = b' ∧ o = o' := by injection hA with hA; injection hA with h1 h2; exact ⟨h1, h2⟩
    obtain ⟨lN, lD⟩ := bd_len HB.out
    obtain ⟨lv, lw⟩ := bd_len b3
    have C3 := Lib.hid (sOf (l := t.amt) (by omega) (show Rat.divInt (val t.amt) 1 = (val t.amt : Rat) from (by have := fv_int t.amt; rwa [show val [49] = 1 by decide] at this)))
    have hn3 : w.heap.size ≠ w.heap.size + 1 + 1 := by omega
    have hn4 : w.heap.size + 1 ≠ w.heap.size + 1 + 1 := by omega
    have HL2 := Lib.hid l5
    have HU2 := Lib.hid u2
    have HK2 : Hid ((k + 1 = 0 → s * q ^ (t.per - a).toNat + (val t.amt : Rat) = 0) ∧ ∀ j u, k + 1 = j + 1 → ps[j]? = some u → u.per = t.per) := ⟨fun h => by omega, fun j u h1 h2 => by have e : j = k := (by omega); rw [e, ht] at h2; injection h2 with h2; rw [h2]⟩
    have HT := Lib.hid ht
    cases k with
    | zero =>
      have hs0 : s = 0 := HK.out.1 rfl
      subst hs0
      have C4 := Lib.hid (sAdd (l := fN 0) (l' := fD 0) (k := fN (val t.amt : Rat)) (k' := fD (val t.amt : Rat)) (by omega) (by omega) (by omega) (by omega) (show _ = 0 * q ^ (t.per - a).toNat + (val t.amt : Rat) by rw [fv_frac, fv_frac, Rat.zero_mul]))
      obtain ⟨s', hs'⟩ : ∃ s', s' = 0 * q ^ (t.per - a).toNat + (val t.amt : Rat) := ⟨_, rfl⟩
      rw [← hs'] at b4 HN C4 HK2
      obtain ⟨v, hv'⟩ : ∃ v : Rat, v = (val t.amt : Rat) := ⟨_, rfl⟩
      rw [← hv'] at C3 C4
      have HB2 := Lib.hid b4
      obtain ⟨s, hs⟩ : ∃ s : Rat, s = 0 := ⟨_, rfl⟩
      rw [← hs] at C4 y5
      simp only [Nat.zero_mul, Nat.add_zero] at p0 p1
      clear hs hs' hv' b1 b2 b3 b4 l1 l2 l3 l4 l5 u1 u2 hA ht HB HL HU HS HK m3 hbs' lN lD lv lw hT hKd
      go_wp2_with fail
      refine wp_region_lastD (by simp) (by kernel_rfl) (by kernel_rfl) (by kernel_rfl) rfl rfl ?_
      simp only [List.dropLast_cons_cons, List.dropLast_singleton, List.getLast_cons_cons, List.getLast_singleton]
      refine kept_val _ (fun _ => rfl) (fun ρ w hw => by have q0 := (y5.below hw).c0; have q1 := (y5.below hw).c1; go_simp; first | done | with_reducible rfl) ?_
      simp only [Act.put, List.setIfInBounds_toArray, List.set_cons_zero, List.set_cons_succ, Nat.reduceAdd]
      refine kept_val _ (fun _ => rfl) (fun ρ w hw => by go_simp; first | done | with_reducible rfl) ?_
      simp only [Act.put, List.setIfInBounds_toArray, List.set_cons_zero, List.set_cons_succ, Nat.reduceAdd]
      refine kept_val _ (fun _ => rfl) (fun ρ w hw => by go_simp; first | done | with_reducible rfl) ?_
      simp only [Act.put, List.setIfInBounds_toArray, List.set_cons_zero, List.set_cons_succ, Nat.reduceAdd]
      refine kept_val _ (fun _ => rfl) (fun ρ w hw => by go_simp; first | done | with_reducible rfl) ?_
      simp only [Act.put, List.setIfInBounds_toArray, List.set_cons_zero, List.set_cons_succ, Nat.reduceAdd]
      refine kept_val _ (fun _ => rfl) (fun ρ w hw => by go_simp; first | done | with_reducible rfl) ?_
      simp only [Act.put, List.setIfInBounds_toArray, List.set_cons_zero, List.set_cons_succ, Nat.reduceAdd]
      refine kept_val _ (fun _ => rfl) (fun ρ w hw => by have p := (hw.cell (p := ⟨b, o + 1, none⟩) (Nat.lt_of_lt_of_le hbs hb.size)).trans p1; go_simp; first | done | with_reducible rfl) ?_
      simp only [Act.put, List.setIfInBounds_toArray, List.set_cons_zero, List.set_cons_succ, Nat.reduceAdd]
      refine kept_call _ _ _ (fun _ => rfl) (fun ρ w hw => by go_simp; first | done | with_reducible rfl) (fun w hw => C3.out.of hG (bto hb hw)) ?_
      simp only [Act.put, List.setIfInBounds_toArray, List.set_cons_zero, List.set_cons_succ, Nat.reduceAdd]
      refine kept_call _ _ _ (fun _ => rfl) (fun ρ w hw => by go_simp; first | done | with_reducible rfl) (fun w hw => C4.out.of hG (bto hb hw)) ?_
      simp only [Act.put, List.setIfInBounds_toArray, List.set_cons_zero, List.set_cons_succ, Nat.reduceAdd]
      refine last_put2 (w.heap.size + 1 + 1) _ _ (.string ⟨(fN s').toArray⟩) (.string ⟨(fD s').toArray⟩) y5 (fun ρ w' q0 q1 q2 q3 => by go_simp; first | done | with_reducible rfl) (fun ρ w3 hF y5' => ?_)
      have hbF := hF.below
      replace y3 := (y3.below hbF).setNe hn3 (.string ⟨(fN s').toArray⟩) (.string ⟨(fD s').toArray⟩)
      replace y4 := (y4.below hbF).setNe hn4 (.string ⟨(fN s').toArray⟩) (.string ⟨(fD s').toArray⟩)
      replace y5 := y5'.set (.string ⟨(fN s').toArray⟩) (.string ⟨(fD s').toArray⟩)
      replace hb := below_set2 (b := w.heap.size + 1 + 1) (bto hb hbF) (by omega) (.string ⟨(fN s').toArray⟩) (.string ⟨(fD s').toArray⟩)
      clear hF hbF y5'
      go_wp2
      go_roundw
      case rel => exact ⟨0 + 1, T2, t.per, s', by omega, by go_num, m1, HK2.out, HN.out, HB2.out, HL2.out, HU2.out, y3, y4, y5, hb⟩
      case measure => simp [intOf]; omega
    | succ j =>
      obtain ⟨u, hu⟩ : ∃ u, ps[j]? = some u := ⟨_, List.getElem?_eq_getElem (by omega)⟩
      have hua : u.per = a := HK.out.2 j u rfl hu
      obtain ⟨b'', o'', hA', hbs'', r0, r1⟩ := (HI.out.below hb) j u hu
      obtain ⟨rfl, rfl⟩ : b = b'' ∧ o = o'' := by injection hA' with hA'; injection hA' with h1 h2; exact ⟨h1, h2⟩
      rw [hua] at r0
      obtain ⟨lG, lH⟩ := bd_len b1
      obtain ⟨lS, lT⟩ := bd_len b2
      have C1 := Lib.hid (mrPower (m := (t.per - a).toNat) HV.out.bd (by have h1 := HL.out; have h2 : K * (t.per - a).toNat ≤ K * (E - a).toNat := Nat.mul_le_mul_left K (by omega); omega) (by omega) rfl)
      rw [show (((t.per - a).toNat : Nat) : Int) = t.per - a by omega] at C1
      obtain ⟨g, hg⟩ : ∃ g, g = q ^ (t.per - a).toNat := ⟨_, rfl⟩
      rw [← hg] at b1 b2 b4 HN C1 lG lH lS lT HK2
      have C2 := Lib.hid (sMul (l := fN s) (l' := fD s) (k := fN g) (k' := fD g) (by omega) (by omega) (by omega) (by omega) (show _ = s * g by rw [fv_frac, fv_frac]))
      have C4 := Lib.hid (sAdd (l := fN (s * g)) (l' := fD (s * g)) (k := fN (val t.amt : Rat)) (k' := fD (val t.amt : Rat)) (by omega) (by omega) (by omega) (by omega) (show _ = s * g + (val t.amt : Rat) by rw [fv_frac, fv_frac]))
      obtain ⟨s', hs'⟩ : ∃ s', s' = s * g + (val t.amt : Rat) := ⟨_, rfl⟩
      rw [← hs'] at b4 HN C4 HK2
      obtain ⟨sg, hsg⟩ : ∃ sg, sg = s * g := ⟨_, rfl⟩
      rw [← hsg] at C2 C4
      obtain ⟨v, hv'⟩ : ∃ v : Rat, v = (val t.amt : Rat) := ⟨_, rfl⟩
      rw [← hv'] at C3 C4
      have HB2 := Lib.hid b4
      clear hs' hsg hv' hg b1 b2 b3 b4 l1 l2 l3 l4 l5 u2 hA ht HB HL HU HS HK m3 hbs' lN lD lv lw hT hKd hu hua hA' hbs'' lG lH lS lT r1
      have hjn : j < n := by omega
      have hj0 : (0 : Int) ≤ (j : Int) + 1 := by omega
      have hjw : IntKind.i64.wrap (j : Int) = (j : Int) := Go.IntWalk.i64_in _ (by omega)
      have hjd : IntKind.i64.wrap (t.per - a) = t.per - a := Go.IntWalk.i64_in _ (by omega)
      go_wp2_with fail
      refine wp_region_lastD (by simp) (by kernel_rfl) (by kernel_rfl) (by kernel_rfl) rfl rfl ?_
      simp only [List.dropLast_cons_cons, List.dropLast_singleton, List.getLast_cons_cons, List.getLast_singleton]
      refine kept_val _ (fun _ => rfl) (fun ρ w hw => by have q0 := (y5.below hw).c0; have q1 := (y5.below hw).c1; go_simp; first | done | with_reducible rfl) ?_
      simp only [Act.put, List.setIfInBounds_toArray, List.set_cons_zero, List.set_cons_succ, Nat.reduceAdd]
      refine kept_val _ (fun _ => rfl) (fun ρ w hw => by have q0 := (y3.below hw).c0; have q1 := (y3.below hw).c1; go_simp; first | done | with_reducible rfl) ?_
      simp only [Act.put, List.setIfInBounds_toArray, List.set_cons_zero, List.set_cons_succ, Nat.reduceAdd]
      refine kept_val _ (fun _ => rfl) (fun ρ w hw => by go_simp; first | done | with_reducible rfl) ?_
      simp only [Act.put, List.setIfInBounds_toArray, List.set_cons_zero, List.set_cons_succ, Nat.reduceAdd]
      refine kept_val _ (fun _ => rfl) (fun ρ w hw => by go_simp; first | done | with_reducible rfl) ?_
      simp only [Act.put, List.setIfInBounds_toArray, List.set_cons_zero, List.set_cons_succ, Nat.reduceAdd]
      refine kept_val _ (fun _ => rfl) (fun ρ w hw => by go_simp; first | done | with_reducible rfl) ?_
      simp only [Act.put, List.setIfInBounds_toArray, List.set_cons_zero, List.set_cons_succ, Nat.reduceAdd]
      refine kept_val _ (fun _ => rfl) (fun ρ w hw => by go_simp; first | done | with_reducible rfl) ?_
      simp only [Act.put, List.setIfInBounds_toArray, List.set_cons_zero, List.set_cons_succ, Nat.reduceAdd]
      refine kept_val _ (fun _ => rfl) (fun ρ w hw => by have p := (hw.cell (p := ⟨b, o + (j + 1) * 2, none⟩) (Nat.lt_of_lt_of_le hbs hb.size)).trans p0; go_simp; first | done | with_reducible rfl) ?_
      simp only [Act.put, List.setIfInBounds_toArray, List.set_cons_zero, List.set_cons_succ, Nat.reduceAdd]
      refine kept_val _ (fun _ => rfl) (fun ρ w hw => by go_simp; first | done | with_reducible rfl) ?_
      simp only [Act.put, List.setIfInBounds_toArray, List.set_cons_zero, List.set_cons_succ, Nat.reduceAdd]
      refine kept_val _ (fun _ => rfl) (fun ρ w hw => by go_simp; first | done | with_reducible rfl) ?_
      simp only [Act.put, List.setIfInBounds_toArray, List.set_cons_zero, List.set_cons_succ, Nat.reduceAdd]
      refine kept_val _ (fun _ => rfl) (fun ρ w hw => by go_simp; first | done | with_reducible rfl) ?_
      simp only [Act.put, List.setIfInBounds_toArray, List.set_cons_zero, List.set_cons_succ, Nat.reduceAdd]
      refine kept_val _ (fun _ => rfl) (fun ρ w hw => by go_simp; first | done | with_reducible rfl) ?_
      simp only [Act.put, List.setIfInBounds_toArray, List.set_cons_zero, List.set_cons_succ, Nat.reduceAdd]
      refine kept_val _ (fun _ => rfl) (fun ρ w hw => by go_simp; first | done | with_reducible rfl) ?_
      simp only [Act.put, List.setIfInBounds_toArray, List.set_cons_zero, List.set_cons_succ, Nat.reduceAdd]
      refine kept_val _ (fun _ => rfl) (fun ρ w hw => by have p := (hw.cell (p := ⟨b, o + j * 2, none⟩) (Nat.lt_of_lt_of_le hbs hb.size)).trans r0; go_simp; first | done | with_reducible rfl) ?_
      simp only [Act.put, List.setIfInBounds_toArray, List.set_cons_zero, List.set_cons_succ, Nat.reduceAdd]
      refine kept_val _ (fun _ => rfl) (fun ρ w hw => by go_simp; first | done | with_reducible rfl) ?_
      simp only [Act.put, List.setIfInBounds_toArray, List.set_cons_zero, List.set_cons_succ, Nat.reduceAdd]
      refine kept_call _ _ _ (fun _ => rfl) (fun ρ w hw => by go_simp; first | done | with_reducible rfl) (fun w hw => C1.out.of hG (bto hb hw)) ?_
      simp only [Act.put, List.setIfInBounds_toArray, List.set_cons_zero, List.set_cons_succ, Nat.reduceAdd]
      refine kept_call _ _ _ (fun _ => rfl) (fun ρ w hw => by go_simp; first | done | with_reducible rfl) (fun w hw => C2.out.of hG (bto hb hw)) ?_
      simp only [Act.put, List.setIfInBounds_toArray, List.set_cons_zero, List.set_cons_succ, Nat.reduceAdd]
      refine last_put2 (w.heap.size + 1 + 1) _ _ (.string ⟨(fN sg).toArray⟩) (.string ⟨(fD sg).toArray⟩) y5 (fun ρ w' q0 q1 q2 q3 => by go_simp; first | done | with_reducible rfl) (fun ρ w3 hF y5' => ?_)
      have hbF := hF.below
      replace y3 := (y3.below hbF).setNe hn3 (.string ⟨(fN sg).toArray⟩) (.string ⟨(fD sg).toArray⟩)
      replace y4 := (y4.below hbF).setNe hn4 (.string ⟨(fN sg).toArray⟩) (.string ⟨(fD sg).toArray⟩)
      replace y5 := y5'.set (.string ⟨(fN sg).toArray⟩) (.string ⟨(fD sg).toArray⟩)
      replace hb := below_set2 (b := w.heap.size + 1 + 1) (bto hb hbF) (by omega) (.string ⟨(fN sg).toArray⟩) (.string ⟨(fD sg).toArray⟩)
      clear hF hbF y5'
      replace p1 : ((w3.setCell ⟨w.heap.size + 1 + 1, 0, none⟩ (.string ⟨(fN sg).toArray⟩)).setCell ⟨w.heap.size + 1 + 1, 1, none⟩ (.string ⟨(fD sg).toArray⟩)).cell? ⟨b, o + (j + 1) * 2 + 1, none⟩ = some (.string ⟨t.amt.toArray⟩) := by
        obtain ⟨b', o', hA, hbs', z0, z1⟩ := (HI.out.below hb) (j + 1) t HT.out
        obtain ⟨rfl, rfl⟩ : b = b' ∧ o = o' := by injection hA with hA; injection hA with h1 h2; exact ⟨h1, h2⟩
        exact z1
      go_wp2_with fail
      refine wp_region_lastD (by simp) (by kernel_rfl) (by kernel_rfl) (by kernel_rfl) rfl rfl ?_
      simp only [List.dropLast_cons_cons, List.dropLast_singleton, List.getLast_cons_cons, List.getLast_singleton]
      refine kept_val _ (fun _ => rfl) (fun ρ w hw => by have q0 := (y5.below hw).c0; have q1 := (y5.below hw).c1; go_simp; first | done | with_reducible rfl) ?_
      simp only [Act.put, List.setIfInBounds_toArray, List.set_cons_zero, List.set_cons_succ, Nat.reduceAdd]
      refine kept_val _ (fun _ => rfl) (fun ρ w hw => by go_simp; first | done | with_reducible rfl) ?_
      simp only [Act.put, List.setIfInBounds_toArray, List.set_cons_zero, List.set_cons_succ, Nat.reduceAdd]
      refine kept_val _ (fun _ => rfl) (fun ρ w hw => by go_simp; first | done | with_reducible rfl) ?_
      simp only [Act.put, List.setIfInBounds_toArray, List.set_cons_zero, List.set_cons_succ, Nat.reduceAdd]
      refine kept_val _ (fun _ => rfl) (fun ρ w hw => by go_simp; first | done | with_reducible rfl) ?_
      simp only [Act.put, List.setIfInBounds_toArray, List.set_cons_zero, List.set_cons_succ, Nat.reduceAdd]
      refine kept_val _ (fun _ => rfl) (fun ρ w hw => by go_simp; first | done | with_reducible rfl) ?_
      simp only [Act.put, List.setIfInBounds_toArray, List.set_cons_zero, List.set_cons_succ, Nat.reduceAdd]
      refine kept_val _ (fun _ => rfl) (fun ρ w hw => by have p := (hw.cell (p := ⟨b, o + (j + 1) * 2 + 1, none⟩) (Nat.lt_of_lt_of_le hbs hb.size)).trans p1; go_simp; first | done | with_reducible rfl) ?_
      simp only [Act.put, List.setIfInBounds_toArray, List.set_cons_zero, List.set_cons_succ, Nat.reduceAdd]
      refine kept_call _ _ _ (fun _ => rfl) (fun ρ w hw => by go_simp; first | done | with_reducible rfl) (fun w hw => C3.out.of hG (bto hb hw)) ?_
      simp only [Act.put, List.setIfInBounds_toArray, List.set_cons_zero, List.set_cons_succ, Nat.reduceAdd]
      refine kept_call _ _ _ (fun _ => rfl) (fun ρ w hw => by go_simp; first | done | with_reducible rfl) (fun w hw => C4.out.of hG (bto hb hw)) ?_
      simp only [Act.put, List.setIfInBounds_toArray, List.set_cons_zero, List.set_cons_succ, Nat.reduceAdd]
      refine last_put2 (w.heap.size + 1 + 1) _ _ (.string ⟨(fN s').toArray⟩) (.string ⟨(fD s').toArray⟩) y5 (fun ρ w' q0 q1 q2 q3 => by go_simp; first | done | with_reducible rfl) (fun ρ w4 hF y5' => ?_)
      have hbF := hF.below
      replace y3 := (y3.below hbF).setNe hn3 (.string ⟨(fN s').toArray⟩) (.string ⟨(fD s').toArray⟩)
      replace y4 := (y4.below hbF).setNe hn4 (.string ⟨(fN s').toArray⟩) (.string ⟨(fD s').toArray⟩)
      replace y5 := y5'.set (.string ⟨(fN s').toArray⟩) (.string ⟨(fD s').toArray⟩)
      replace hb := below_set2 (b := w.heap.size + 1 + 1) (bto hb hbF) (by omega) (.string ⟨(fN s').toArray⟩) (.string ⟨(fD s').toArray⟩)
      clear hF hbF y5'
      go_wp2
      go_roundw
      case rel => exact ⟨j + 1 + 1, T2, t.per, s', by omega, by go_num, m1, HK2.out, HN.out, HB2.out, HL2.out, HU2.out, y3, y4, y5, hb⟩
      case measure => simp [intOf]; omega
end Go.Proofs.YtolbojchdlojnaaGreatDoor
