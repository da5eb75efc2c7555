/- The value of payments: package moneyweighted, trancheref47. -/
import Derived.Test.YtolbojchdlojnaaGreatDoorWs
import Derived.Test.YtolbojchdlojnaaGreatDoorBq
namespace Go.Proofs.YtolbojchdlojnaaGreatDoor
open Go.RowKit Num
/-- the sizes at which a value is computed -/
structure ValOk (ps : List Pay) (q : Rat) (K M : Nat) (a0 E : Int) : Prop where
  bd : Bd K q
  k : K ≤ 80
  m1 : 1 ≤ M
  up : UpL a0 (pzs ps)
  mem : ∀ p ∈ ps, 0 ≤ p.per ∧ p.per ≤ E ∧ (val p.amt).natAbs < 10 ^ M ∧ p.amt.length ≤ 1000
  nn : 0 ≤ a0
  e4 : E ≤ 400
  lim : K * (E - a0).toNat + ps.length * (M + 3) ≤ 799
theorem hv_next (q s : Rat) (a : Int) {ps : List Pay} {k : Nat} {t : Pay} (ht : ps[k]? = some t) : hv q s a (pzs (ps.drop k)) = hv q (s * q ^ (t.per - a).toNat + (val t.amt : Rat)) t.per (pzs (ps.drop (k + 1))) := by
  obtain ⟨hk, rfl⟩ := List.getElem?_eq_some_iff.1 ht
  rw [List.drop_eq_getElem_cons hk]; rfl
theorem up_next {a : Int} {ps : List Pay} {k : Nat} {t : Pay} (ht : ps[k]? = some t) (h : UpL a (pzs (ps.drop k))) : a ≤ t.per ∧ UpL t.per (pzs (ps.drop (k + 1))) := by
  obtain ⟨hk, rfl⟩ := List.getElem?_eq_some_iff.1 ht
  rw [List.drop_eq_getElem_cons hk] at h
  exact h
theorem bd_step {q s : Rat} {K M T j : Nat} {a E p v : Int} (hq : Bd K q) (hM : 1 ≤ M) (hs : Bd T s) (ha : a ≤ p) (hE : p ≤ E) (hm : v.natAbs < 10 ^ M) (hl : T + K * (E - a).toNat + (j + 1) * (M + 3) ≤ 800) :
    ∃ D T', D ≤ 800 ∧ T' ≤ 800 ∧ M ≤ 800 ∧ Bd D (q ^ (p - a).toNat) ∧ Bd T' (s * q ^ (p - a).toNat) ∧ Bd M (v : Rat) ∧ ∃ T2, T2 ≤ 800 ∧ Bd T2 (s * q ^ (p - a).toNat + (v : Rat)) ∧ T2 + K * (E - p).toNat + j * (M + 3) ≤ 800 := by
  have b1 := bd_pow hq (p - a).toNat
  have b2 := bd_mul hs b1
  have b3 := bd_int hm hM
  have b4 := bd_add b2 b3
  have e : (E - a).toNat = (E - p).toNat + (p - a).toNat := by omega
  rw [e, Nat.mul_add K, Nat.add_one_mul] at hl
  exact ⟨_, _, by omega, by omega, by omega, b1, b2, b3, _, by omega, b4, by omega⟩
theorem val_start {ps : List Pay} {q : Rat} {a0 : Int} : hv q 0 a0 (pzs (ps.drop 0)) = valQ q (pzs ps) := by rw [List.drop_zero, val_hv]
theorem val_end {ps : List Pay} {q s : Rat} {a : Int} {n : Nat} (hn : ps.length ≤ n) : hv q s a (pzs (ps.drop n)) = s := by rw [List.drop_of_length_le hn]; rfl
theorem fN0 : fN 0 = [] := by decide +kernel
theorem fD0 : fD 0 = [] := by decide +kernel
theorem bd0 : Bd 1 0 := ⟨by decide, by decide⟩
theorem zpow_nat' (q : Rat) {n : Int} (h : 0 ≤ n) : q ^ n = q ^ n.toNat := by
  obtain ⟨m, rfl⟩ : ∃ m : Nat, n = (m : Int) := ⟨n.toNat, by omega⟩
  rw [Rat.zpow_natCast]; rfl
set_option maxHeartbeats 4000000 in
set_option maxRecDepth 100000 in
theorem mwValue {ps : List Pay} {q : Rat} {K M : Nat} {a0 E : Int} (A : Option Addr) (n c : Nat) (w : World) (hG : Glob w) (hn : ps.length = n) (hV : ValOk ps q K M a0 E) {t0 : Pay} (h0 : ps[0]? = some t0) (ha0 : t0.per = a0) (h : PayAt w A ps) :
    Calls Tryz.prog 78 #[.slice A n c, (Value.agg #[Value.string ⟨List.toArray (fN q)⟩, Value.string ⟨List.toArray (fD q)⟩])] w fun e w' => e = .returned (Value.agg #[Value.string ⟨List.toArray (fN (valQ q (pzs ps)))⟩, Value.string ⟨List.toArray (fD (valQ q (pzs ps)))⟩]) ∧ Below w.heap.size w w' := by
  obtain ⟨b, o, rfl, hbs, p00, p01⟩ := h 0 t0 h0
  have hn0 : 0 < n := by have := (List.getElem?_eq_some_iff.1 h0).1; omega
  have hnB : n ≤ 800 := by have h1 := hV.lim; have h2 := hV.m1; have h3 : ps.length * 1 ≤ ps.length * (M + 3) := Nat.mul_le_mul_left _ (by omega); omega
  have HI := Lib.hid h
  have HV := Lib.hid hV
  obtain ⟨R, hR⟩ : ∃ R, R = valQ q (pzs ps) := ⟨_, rfl⟩
  have HS : Hid (hv q 0 a0 (pzs (ps.drop 0)) = R) := by show _ = _; rw [hR]; exact val_start
  have HB0 : Hid (Bd 1 (0 : Rat)) := bd0
  have HL0 : Hid (1 + K * (E - a0).toNat + (n - 0) * (M + 3) ≤ 800) := by have := hV.lim; show _ ≤ _; rw [hn] at this; rw [Nat.sub_zero]; omega
  have HU0 : Hid (UpL a0 (pzs (ps.drop 0))) := hV.up
  have hn1 : ps.length ≤ n := by omega
  have hn2 : n ≤ ps.length := by omega
  have ha00 := hV.nn
  rw [← hR]
  have x3 := ((FBox.new w (.string ⟨(fN q).toArray⟩) (.string ⟨(fD q).toArray⟩) 30).below (below_alloc _ (.cells #[.string ⟨#[]⟩, .string ⟨#[]⟩] 30))).below (below_alloc _ (.cells #[.string ⟨#[]⟩, .string ⟨#[]⟩] 30))
  have x4 := (FBox.new (w.alloc (.cells #[.string ⟨(fN q).toArray⟩, .string ⟨(fD q).toArray⟩] 30)) (.string ⟨#[]⟩) (.string ⟨#[]⟩) 30).below (below_alloc _ (.cells #[.string ⟨#[]⟩, .string ⟨#[]⟩] 30))
  have x5 := FBox.new ((w.alloc (.cells #[.string ⟨(fN q).toArray⟩, .string ⟨(fD q).toArray⟩] 30)).alloc (.cells #[.string ⟨#[]⟩, .string ⟨#[]⟩] 30)) (.string ⟨#[]⟩) (.string ⟨#[]⟩) 30
  have hb := bto (below_alloc w (.cells #[.string ⟨(fN q).toArray⟩, .string ⟨(fD q).toArray⟩] 30)) (bto (below_alloc _ (.cells #[.string ⟨#[]⟩, .string ⟨#[]⟩] 30)) (below_alloc _ (.cells #[.string ⟨#[]⟩, .string ⟨#[]⟩] 30)))
  simp only [World.size_alloc] at x4 x5
  have p0 := (hb.cell (p := ⟨b, o, none⟩) hbs).trans (by simpa using p00)
  rw [ha0] at p0
  clear p00 p01 hn hV h hR h0 ha0
  go_enter Tryz.func78, Tryz.ntmps78
  go_wp2_with fail
  clear p0
  go_loopw [6, 17] (fun av iv wr => ∃ (k T : Nat) (a : Int) (s : Rat), k ≤ n ∧ iv = .int .i64 (k : Int) ∧ av = .int .i64 a ∧ 0 ≤ a ∧ Hid (hv q s a (pzs (ps.drop k)) = R) ∧ Hid (Bd T s) ∧ Hid (T + K * (E - a).toNat + (n - k) * (M + 3) ≤ 800) ∧ Hid (UpL a (pzs (ps.drop k))) ∧ FBox wr w.heap.size (.string ⟨(fN q).toArray⟩) (.string ⟨(fD q).toArray⟩) ∧ FBox wr (w.heap.size + 1) (.string ⟨#[]⟩) (.string ⟨#[]⟩) ∧ FBox wr (w.heap.size + 1 + 1) (.string ⟨(fN s).toArray⟩) (.string ⟨(fD s).toArray⟩) ∧ Below w.heap.size w wr) (fun _ iv _ => n - (intOf iv).toNat)
  case atStart => exact ⟨0, 1, a0, 0, Nat.zero_le _, rfl, rfl, ha00, HS.out, HB0.out, HL0.out, HU0.out, x3, x4, by rw [fN0, fD0]; exact x5, hb⟩
  case round =>
    clear x3 x4 x5 hb HS HB0 HL0 HU0 ha00
    obtain ⟨k, T, a, s, hk, rfl, rfl, hz, HS, HB, HL, HU, y3, y4, y5, hb⟩ := hrel
    by_cases hlk : k < n
    rotate_left
    · have hq : s = R := by have := HS.out; rwa [val_end (by omega)] at this
      subst hq
      have q0 := y5.c0
      have q1 := y5.c1
      have g0 := y4.c0
      have g1 := y4.c1
      have g2 := y4.f0
      have g3 := y4.f1
      clear HS HB HL HU
      go_wp2
      have hy := y4.set (.string ⟨(fN s).toArray⟩) (.string ⟨(fD s).toArray⟩)
      have d0 := hy.c0
      have d1 := hy.c1
      refine bodyPost_ret (v := (Value.agg #[Value.string ⟨List.toArray (fN s)⟩, Value.string ⟨List.toArray (fD s)⟩])) (by simp [results, Tryz.results78, go_sem, d0, d1]) rfl ?_
      exact ⟨rfl, below_set2 hb (by omega) _ _⟩
    obtain ⟨t, ht⟩ : ∃ t, ps[k]? = some t := ⟨_, List.getElem?_eq_getElem (by omega)⟩
    obtain ⟨m1, m2, m3, m4⟩ := HV.out.mem t (List.mem_of_getElem? ht)
    obtain ⟨u1, u2⟩ := up_next ht HU.out
    obtain ⟨D, T1, l1, l2, l3, b1, b2, b3, T2, l4, b4, l5⟩ := bd_step (j := n - (k + 1)) HV.out.bd HV.out.m1 HB.out u1 m2 m3 (by have := HL.out; rwa [show n - (k + 1) + 1 = n - k by omega])
    have HN := Lib.hid ((hv_next q s a ht).symm.trans HS.out)
    have hk8 := HV.out.k
    have he4 := HV.out.e4
    have C1 := Lib.hid (rPow (l := fN q) (l' := fD q) (by have := (bd_len HV.out.bd).1; omega) (by have := (bd_len HV.out.bd).2; omega) (fv_frac q) (t.per - a) (by omega) (by omega) (.inl (by omega)) (zpow_nat' q (by omega)))
    obtain ⟨g, hg⟩ : ∃ g, g = q ^ (t.per - a).toNat := ⟨_, rfl⟩
    rw [← hg] at b1 b2 b4 HN C1
    have C2 := Lib.hid (rMul (isq_fr (bd_mono HB.out (Nat.le_refl _)) (by have := HL.out; omega)) (isq_fr b1 (by omega)) (rfl : s * g = s * g))
    have C3 := Lib.hid (rOf (l := t.amt) (by omega) rfl)
    have C4 := Lib.hid (rAdd (isq_fr b2 (by omega)) (isq_fr b3 (by omega)) (rfl : s * g + (val t.amt : Rat) = s * g + (val t.amt : Rat)))
    obtain ⟨s', hs'⟩ : ∃ s', s' = s * g + (val t.amt : Rat) := ⟨_, rfl⟩
    rw [← hs'] at b4 HN C4
    obtain ⟨sg, hsg⟩ : ∃ sg, sg = s * g := ⟨_, rfl⟩
    rw [← hsg] at C2 C4
    obtain ⟨v, hv'⟩ : ∃ v : Rat, v = (val t.amt : Rat) := ⟨_, rfl⟩
    rw [← hv'] at C3 C4
    obtain ⟨b', o', hA, hbs', p0, p1⟩ := (HI.out.below hb) k t ht
    obtain ⟨rfl, rfl⟩ : b = b' ∧ o = o' := by injection hA with hA; injection hA with h1 h2; exact ⟨h1, h2⟩
    have HB2 := Lib.hid b4
    have HL2 := Lib.hid l5
    have HU2 := Lib.hid u2
    have hsz : w.heap.size + 1 + 1 < wr.heap.size := y5.lt
    clear hs' hsg hv' hg b1 b2 b3 b4 l1 l2 l3 l4 l5 u2 hA ht HB HL HU HS m3 hbs'
    have hbA := below_alloc wr (.cells #[.int .i64 t.per, .string ⟨t.amt.toArray⟩] 27)
    have x8 := FBox.new wr (.int .i64 t.per) (.string ⟨t.amt.toArray⟩) 27
    replace y3 := y3.below hbA
    replace y4 := y4.below hbA
    replace y5 := y5.below hbA
    replace hb := bto hb hbA
    have q0 := x8.c0
    have q1 := x8.c1
    have q2 := y3.c0
    have q3 := y3.c1
    clear hbA
    go_wp2_with fail
    ((with_reducible refine (C1.out.of hG hb).mono ?_); rintro e w2 ⟨rfl, hb2⟩)
    clear q0 q1 q2 q3 p0 p1
    replace x8 := x8.below hb2
    replace y3 := y3.below hb2
    replace y4 := y4.below hb2
    replace y5 := y5.below hb2
    replace hb := bto hb hb2
    clear hb2
    have hbA := below_alloc w2 (.cells #[.string ⟨(fN g).toArray⟩, .string ⟨(fD g).toArray⟩] 30)
    have x9 := FBox.new w2 (.string ⟨(fN g).toArray⟩) (.string ⟨(fD g).toArray⟩) 30
    replace x8 := x8.below hbA
    replace y3 := y3.below hbA
    replace y4 := y4.below hbA
    replace y5 := y5.below hbA
    replace hb := bto hb hbA
    clear hbA
    go_wp2_with fail
    refine wp_region_lastD (by simp) (by kernel_rfl) (by kernel_rfl) (by kernel_rfl) rfl rfl ?_
    simp only [List.dropLast_cons_cons, List.dropLast_singleton, List.getLast_cons_cons, List.getLast_singleton]
    refine kept_val _ (fun _ => rfl) (fun ρ w hw => by have q0 := (y5.below hw).c0; have q1 := (y5.below hw).c1; go_simp; first | done | with_reducible rfl) ?_
    simp only [Act.put, List.setIfInBounds_toArray, List.set_cons_zero, List.set_cons_succ, Nat.reduceAdd]
    refine kept_val _ (fun _ => rfl) (fun ρ w hw => by have q0 := (x9.below hw).c0; have q1 := (x9.below hw).c1; go_simp; first | done | with_reducible rfl) ?_
    simp only [Act.put, List.setIfInBounds_toArray, List.set_cons_zero, List.set_cons_succ, Nat.reduceAdd]
    refine kept_call _ _ _ (fun _ => rfl) (fun ρ w hw => by go_simp; first | done | with_reducible rfl) (fun w hw => C2.out.of hG (bto hb hw)) ?_
    simp only [Act.put, List.setIfInBounds_toArray, List.set_cons_zero, List.set_cons_succ, Nat.reduceAdd]
    refine kept_val _ (fun _ => rfl) (fun ρ w hw => by go_simp; first | done | with_reducible rfl) ?_
    simp only [Act.put, List.setIfInBounds_toArray, List.set_cons_zero, List.set_cons_succ, Nat.reduceAdd]
    refine kept_val _ (fun _ => rfl) (fun ρ w hw => by have q1 := (x8.below hw).c1; go_simp; first | done | with_reducible rfl) ?_
    simp only [Act.put, List.setIfInBounds_toArray, List.set_cons_zero, List.set_cons_succ, Nat.reduceAdd]
    refine kept_call _ _ _ (fun _ => rfl) (fun ρ w hw => by go_simp; first | done | with_reducible rfl) (fun w hw => C3.out.of hG (bto hb hw)) ?_
    simp only [Act.put, List.setIfInBounds_toArray, List.set_cons_zero, List.set_cons_succ, Nat.reduceAdd]
    refine kept_call _ _ _ (fun _ => rfl) (fun ρ w hw => by go_simp; first | done | with_reducible rfl) (fun w hw => C4.out.of hG (bto hb hw)) ?_
    simp only [Act.put, List.setIfInBounds_toArray, List.set_cons_zero, List.set_cons_succ, Nat.reduceAdd]
    refine last_put2 (w.heap.size + 1 + 1) _ _ (.string ⟨(fN s').toArray⟩) (.string ⟨(fD s').toArray⟩) y5 (fun ρ w' q0 q1 q2 q3 => by go_simp; first | done | with_reducible rfl) (fun ρ w3 hF y5' => ?_)
    have hbF := hF.below
    have hn3 : w.heap.size ≠ w.heap.size + 1 + 1 := by omega
    have hn4 : w.heap.size + 1 ≠ w.heap.size + 1 + 1 := by omega
    have hn8 : wr.heap.size ≠ w.heap.size + 1 + 1 := by omega
    replace y3 := (y3.below hbF).setNe hn3 (.string ⟨(fN s').toArray⟩) (.string ⟨(fD s').toArray⟩)
    replace y4 := (y4.below hbF).setNe hn4 (.string ⟨(fN s').toArray⟩) (.string ⟨(fD s').toArray⟩)
    replace x8 := (x8.below hbF).setNe hn8 (.string ⟨(fN s').toArray⟩) (.string ⟨(fD s').toArray⟩)
    replace y5 := y5'.set (.string ⟨(fN s').toArray⟩) (.string ⟨(fD s').toArray⟩)
    replace hb := below_set2 (b := w.heap.size + 1 + 1) (bto hb hbF) (by omega) (.string ⟨(fN s').toArray⟩) (.string ⟨(fD s').toArray⟩)
    have q0 := x8.c0
    clear hF hbF y5' x9
    go_wp2
    go_roundw
    case rel => exact ⟨k + 1, T2, t.per, s', by omega, by go_num, rfl, m1, HN.out, HB2.out, HL2.out, HU2.out, y3, y4, y5, hb⟩
    case measure => simp [intOf]; omega
end Go.Proofs.YtolbojchdlojnaaGreatDoor
