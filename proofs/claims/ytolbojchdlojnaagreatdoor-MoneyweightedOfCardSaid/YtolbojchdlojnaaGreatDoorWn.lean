/- The sizes of the laws of layer 47; small functions of the law's package. -/
import Derived.Test.YtolbojchdlojnaaGreatDoorWm
namespace Go.Proofs.YtolbojchdlojnaaGreatDoor
open Go.RowKit Num
/-- payments within the sizes of the laws -/
structure GoodP (ps : List Pay) (n : Nat) : Prop where
  len : ps.length = n
  sz : n ≤ 8 ∨ (65 ≤ n ∧ n ≤ 67)
  am : ∀ p ∈ ps, p.amt.length ≤ 13
  span : payE ps = 0 → n ≤ 8 → ∀ a z, ps[0]? = some a → ps[n - 1]? = some z → z.per - a.per ≤ 12
theorem GoodP.pl {w : World} {A : Option Addr} {ps : List Pay} {n : Nat} (h : GoodP ps n) (hI : PayAt w A ps) : PL w A ps n := ⟨hI, h.len, fun p hp => Nat.le_trans (h.am p hp) (by decide), by have := h.sz; omega⟩
theorem up_last : ∀ (ps : List Pay) (a : Int) (p : Pay), UpL a (pzs ps) → p ∈ ps → ∀ z, ps[ps.length - 1]? = some z → p.per ≤ z.per
  | [], _, p, _, h, _, _ => by cases h
  | [q], a, p, _, h, z, hz => by
    rcases List.mem_cons.1 h with rfl | h
    · have : p = z := by simpa using hz
      rw [this]; exact Int.le_refl _
    · cases h
  | q :: r :: t, a, p, hu, h, z, hz => by
    have hz2 : (r :: t)[(r :: t).length - 1]? = some z := by simpa using hz
    have h1 := up_last (r :: t) q.per
    rcases List.mem_cons.1 h with rfl | h
    · have h2 := h1 r hu.2 (List.mem_cons_self ..) z hz2
      have h3 : p.per ≤ r.per := hu.2.1
      omega
    · exact h1 p hu.2 h z hz2
theorem good_valAt {ps : List Pay} {n K M : Nat} {q : Rat} (hlen : ps.length = n) (hn8 : n ≤ 8) (hspan : ∀ a z, ps[0]? = some a → ps[n - 1]? = some z → z.per - a.per ≤ 12) (h0 : payE ps = 0) (hq : Bd K q) (hM : 1 ≤ M) (hm : ∀ p ∈ ps, (val p.amt).natAbs < 10 ^ M ∧ p.amt.length ≤ 1000) (hK : K * 12 + 8 * (M + 3) ≤ 799) : ValAt ps q := by
  obtain ⟨h1, h2, h3, h4⟩ := payE_ok h0
  obtain ⟨a, ha⟩ : ∃ a, ps[0]? = some a := ⟨_, List.getElem?_eq_getElem (by omega)⟩
  obtain ⟨z, hz⟩ : ∃ z, ps[n - 1]? = some z := ⟨_, List.getElem?_eq_getElem (by omega)⟩
  have hs := hspan a z ha hz
  obtain ⟨x1, x2, x3⟩ := h4 a (List.mem_of_getElem? ha)
  obtain ⟨z1, z2, z3⟩ := h4 z (List.mem_of_getElem? hz)
  have hup : UpL a.per (pzs ps) := by
    have h5 : UpL 0 (pzs (ps.drop 0)) := by rw [List.drop_zero]; exact h3
    obtain ⟨-, h6⟩ := up_next ha h5
    obtain ⟨hk, rfl⟩ := List.getElem?_eq_some_iff.1 ha
    have e : pzs (ps.drop 0) = (ps[0].per, val ps[0].amt) :: pzs (ps.drop 1) := by rw [List.drop_eq_getElem_cons hk]; rfl
    rw [List.drop_zero] at e
    rw [e]
    exact ⟨Int.le_refl _, h6⟩
  have haz := up_last ps a.per
  refine ⟨K, M, z.per, a, ha, ⟨hq, by omega, hM, hup, fun p hp => ?_, x1, z2, ?_⟩⟩
  · obtain ⟨y1, y2, y3⟩ := h4 p hp
    exact ⟨y1, haz p hup hp z (by rw [hlen]; exact hz), (hm p hp).1, (hm p hp).2⟩
  · have e1 : K * (z.per - a.per).toNat ≤ K * 12 := Nat.mul_le_mul_left K (by omega)
    have e2 : ps.length * (M + 3) ≤ 8 * (M + 3) := Nat.mul_le_mul_right _ (by omega)
    omega
theorem abs_bd {M : Nat} : ∀ (l : List PZ), (∀ p ∈ l, p.2.natAbs < 10 ^ M) → absS l ≤ (l.length : Int) * ((10 ^ M : Nat) : Int)
  | [], _ => by simp [absS]
  | p :: r, h => by
    have h1 := abs_bd r (fun q hq => h q (List.mem_cons_of_mem _ hq))
    have h2 : (p.2.natAbs : Int) < ((10 ^ M : Nat) : Int) := Int.ofNat_lt.2 (h p (List.mem_cons_self ..))
    show (p.2.natAbs : Int) + absS r ≤ _
    rw [List.length_cons, Int.natCast_add, Int.add_mul]
    generalize ((10 ^ M : Nat) : Int) = X at *
    omega
theorem bnd_root {ps : List Pay} {n M : Nat} {p z : Int} (hlen : ps.length = n) (hn8 : n ≤ 8) (hspan : ∀ a z, ps[0]? = some a → ps[n - 1]? = some z → z.per - a.per ≤ 12) (h0 : payE ps = 0) (hM : 1 ≤ M) (hM2 : M ≤ 26) (hm : ∀ p ∈ ps, (val p.amt).natAbs < 10 ^ M ∧ p.amt.length ≤ 1000) (hp0 : 0 ≤ p) (hp : p ≤ 12) (hr : Root (pzs ps) ((10 ^ p.toNat : Nat) : Int) z) : BndOk ps p z 41 := by
  have hu : ((10 ^ p.toNat : Nat) : Int) ≤ 10 ^ 12 := by
    have : 10 ^ p.toNat ≤ 10 ^ 12 := Nat.pow_le_pow_right (by decide) (by omega)
    exact_mod_cast this
  have hu0 := u_pos p
  have ha := abs_bd (M := M) (pzs ps) (fun q hq => by
    obtain ⟨t, ht, rfl⟩ := List.mem_map.1 hq
    exact (hm t ht).1)
  have hl : (pzs ps).length ≤ 8 := by unfold pzs; rw [List.length_map]; omega
  have hX : ((10 ^ M : Nat) : Int) ≤ 10 ^ 26 := by
    have : 10 ^ M ≤ 10 ^ 26 := Nat.pow_le_pow_right (by decide) hM2
    exact_mod_cast this
  have hX0 : (0 : Int) ≤ ((10 ^ M : Nat) : Int) := Int.natCast_nonneg _
  have h1 : absS (pzs ps) ≤ 8 * 10 ^ 26 := by
    refine Int.le_trans ha ?_
    exact Int.mul_le_mul (by omega) hX hX0 (by decide)
  have h2 := hr.le
  have h3 := absS_nn (pzs ps)
  have h4 : (1 + absS (pzs ps)) * ((10 ^ p.toNat : Nat) : Int) ≤ (1 + 8 * 10 ^ 26) * 10 ^ 12 := Int.mul_le_mul (by omega) hu (by omega) (by decide)
  have hz := hr.nn
  refine ⟨hr, fun y y1 y2 => ?_, by decide, ?_⟩
  · refine good_valAt (K := 40) (M := M) hlen hn8 hspan h0 (bd_divInt ?_ ?_ (by omega)) hM hm (by omega)
    · have : y ≤ 2 * ((1 + 8 * 10 ^ 26) * 10 ^ 12) + 2 := by omega
      have e : y.natAbs ≤ (2 * ((1 + 8 * 10 ^ 26) * 10 ^ 12) + 2 : Nat) := by omega
      exact Nat.lt_of_le_of_lt e (by decide)
    · have e : ((10 ^ p.toNat : Nat) : Int).natAbs ≤ 10 ^ 12 := by omega
      exact Nat.lt_of_le_of_lt e (by decide)
  · have e : (2 * z + 2).natAbs ≤ (2 * ((1 + 8 * 10 ^ 26) * 10 ^ 12) + 2 : Nat) := by omega
    exact Nat.lt_of_le_of_lt e (by decide)
def longF (l l' : List UInt8) : Bool := decide (13 < l.length) || decide (13 < l'.length)
theorem longF_f {l l' : List UInt8} (h : longF l l' = false) : l.length ≤ 13 ∧ l'.length ≤ 13 := by
  unfold longF at h
  simp only [Bool.or_eq_false_iff, decide_eq_false_iff_not] at h
  omega
set_option maxRecDepth 100000 in
theorem wLong (l l' : List UInt8) : Ret 24 #[(Value.agg #[Value.string ⟨List.toArray l⟩, Value.string ⟨List.toArray l'⟩])] (.bool (longF l l')) := fun w hG => by
  go_enter Tryz.func24, Tryz.ntmps24
  go_wp2_with fail
  ((with_reducible refine (long_any _ 1 1 (fun i => [l, l'].getD i []) _ (by decide) ?_).mono ?_))
  · intro i hi
    have hi : i = 0 ∨ i = 1 := by omega
    rcases hi with rfl | rfl <;> simp [go_sem]
  rintro e w1 ⟨hres, hb1⟩
  have hb : Below w.heap.size w w1 := bto (bto (below_alloc _ _) (below_alloc _ _)) hb1
  clear hb1
  rcases hres with ⟨rfl, j, hj, hl⟩ | ⟨rfl, hlen⟩
  · have HV : Hid (longF l l' = true) := by
      have hj : j = 0 ∨ j = 1 := by omega
      show _ = _
      unfold longF
      rcases hj with rfl | rfl
      · have : 13 < l.length := hl
        rw [decide_eq_true this]; rfl
      · have : 13 < l'.length := hl
        rw [decide_eq_true this, Bool.or_true]
    clear hl hj
    go_wp2
    go_ret
    exact ⟨retb HV.out.symm, hb⟩
  · have h0 : l.length ≤ 13 := hlen 0 (by decide)
    have h1 : l'.length ≤ 13 := hlen 1 (by decide)
    have HV : Hid (longF l l' = false) := by show _ = _; unfold longF; rw [decide_eq_false (by omega), decide_eq_false (by omega)]; rfl
    clear hlen h0 h1
    go_wp2
    go_ret
    exact ⟨retb HV.out.symm, hb⟩
theorem wSign {l l' : List UInt8} {p : Rat} (h : IsQ l l' p) {c : Int} (ec : cmpQ p 0 = c) : Ret 49 #[(Value.agg #[Value.string ⟨List.toArray l⟩, Value.string ⟨List.toArray l'⟩])] (.int .i64 c) := fun w hG => by
  have C1 := Lib.hid (rCompare h isq_zero ec)
  have x1 := FBox.new w (.string ⟨l.toArray⟩) (.string ⟨l'.toArray⟩) 30
  have hb := below_alloc w (.cells #[.string ⟨l.toArray⟩, .string ⟨l'.toArray⟩] 30)
  have q0 := x1.c0
  have q1 := x1.c1
  clear h ec
  go_enter Tryz.func49, Tryz.ntmps49
  go_wp2_with fail
  ((with_reducible refine (C1.out.of hG hb).mono ?_); rintro e w2 ⟨rfl, hb2⟩)
  go_wp2
  go_ret
  exact ⟨rfl, bto hb hb2⟩
theorem wPay {a b : Int} {L : List UInt8} (hb0 : -9223372036854775808 ≤ b) (hb1 : b ≤ 9223372036854775807) (eL : canon b = L) : Ret 71 #[.int .i64 a, .int .i64 b] (.agg #[.int .i64 a, .string ⟨L.toArray⟩]) := fun w hG => by
  have c1 := riOf b hb0 hb1
  rw [eL] at c1
  have C1 := Lib.hid c1
  have x4 := FBox.new w (.int .i64 0) (.string ⟨#[]⟩) 27
  have hb := below_alloc w (.cells #[.int .i64 0, .string ⟨#[]⟩] 27)
  clear hb0 hb1 eL c1
  go_enter Tryz.func71, Tryz.ntmps71
  go_wp2_with fail
  ((with_reducible refine (C1.out.of hG hb).mono ?_); rintro e w2 ⟨rfl, hb2⟩)
  replace x4 := x4.below hb2
  replace hb := bto hb hb2
  have g0 := x4.c0
  have g1 := x4.c1
  have g2 := x4.f0
  have g3 := x4.f1
  go_wp2
  have hy := x4.set (.int .i64 a) (.string ⟨L.toArray⟩)
  have d0 := hy.c0
  have d1 := hy.c1
  refine bodyPost_ret (v := .agg #[.int .i64 a, .string ⟨L.toArray⟩]) (by simp [results, Tryz.results71, go_sem, d0, d1]) rfl ?_
  exact ⟨rfl, below_set2 hb (Nat.le_refl _) _ _⟩
theorem wRatio {a b : Int} {r : Rat} (ha : -9223372036854775808 ≤ a ∧ a ≤ 9223372036854775807) (hb' : -9223372036854775808 ≤ b ∧ b ≤ 9223372036854775807) (h0 : b ≠ 0) (er : Rat.divInt a b = r) : Ret 72 #[.int .i64 a, .int .i64 b] (Value.agg #[Value.string ⟨List.toArray (fN r)⟩, Value.string ⟨List.toArray (fD r)⟩]) := fun w hG => by
  have C1 := Lib.hid (riOf a ha.1 ha.2)
  have C2 := Lib.hid (riOf b hb'.1 hb'.2)
  have la : (canon a).length ≤ 1000000 := Nat.le_trans (canon_len_le a 30 (by omega)) (by decide)
  have lb : (canon b).length ≤ 1000000 := Nat.le_trans (canon_len_le b 30 (by omega)) (by decide)
  have C3 := Lib.hid (rNew (l := canon a) (l' := canon b) la lb (by rw [val_canon]; exact h0) (show _ = r by rw [val_canon, val_canon]; exact er))
  generalize canon a = X at *
  generalize canon b = Y at *
  have x4 := FBox.new w (.string ⟨#[]⟩) (.string ⟨#[]⟩) 30
  have hb := below_alloc w (.cells #[.string ⟨#[]⟩, .string ⟨#[]⟩] 30)
  clear ha hb' h0 er la lb
  go_enter Tryz.func72, Tryz.ntmps72
  go_wp2_with fail
  ((with_reducible refine (C1.out.of hG hb).mono ?_); rintro e w2 ⟨rfl, hb2⟩)
  replace x4 := x4.below hb2
  replace hb := bto hb hb2
  clear hb2
  go_wp2_with fail
  ((with_reducible refine (C2.out.of hG hb).mono ?_); rintro e w3 ⟨rfl, hb3⟩)
  replace x4 := x4.below hb3
  replace hb := bto hb hb3
  clear hb3
  go_wp2_with fail
  ((with_reducible refine (C3.out.of hG hb).mono ?_); rintro e w4 ⟨rfl, hb4⟩)
  have x5 := FBox.new w4 (.string ⟨(fN r).toArray⟩) (.string ⟨(fD r).toArray⟩) 30
  have hbA := below_alloc w4 (.cells #[.string ⟨(fN r).toArray⟩, .string ⟨(fD r).toArray⟩] 30)
  replace x4 := (x4.below hb4).below hbA
  replace hb := bto hb (bto hb4 hbA)
  have g0 := x4.c0
  have g1 := x4.c1
  have g2 := x4.f0
  have g3 := x4.f1
  have p0 := x5.c0
  have p1 := x5.c1
  clear hb4 hbA
  go_wp2
  have hy := x4.set (.string ⟨(fN r).toArray⟩) (.string ⟨(fD r).toArray⟩)
  have d0 := hy.c0
  have d1 := hy.c1
  refine bodyPost_ret (v := (Value.agg #[Value.string ⟨List.toArray (fN r)⟩, Value.string ⟨List.toArray (fD r)⟩])) (by simp [results, Tryz.results72, go_sem, d0, d1]) rfl ?_
  exact ⟨rfl, below_set2 hb (Nat.le_refl _) _ _⟩
set_option maxHeartbeats 4000000 in
set_option maxRecDepth 100000 in
theorem mrGreat (A : Option Addr) (ps : List Pay) (n c : Nat) (w : World) (hG : Glob w) (hn : ps.length = n) (hnm : n ≤ 9223372036854775807) (h : PayAt w A ps) :
    Calls Tryz.prog 23 #[.slice A n c] w fun e w' => ∃ b, e = .returned (.bool b) ∧ (b = false → GoodP ps n) ∧ Below w.heap.size w w' := by
  have HI := Lib.hid h
  have hn1 : ps.length ≤ n := by omega
  have hn2 : n ≤ ps.length := by omega
  have HN := Lib.hid hn
  have hb := Below.refl w.heap.size w
  clear h hn
  by_cases s1 : 8 < n ∧ n ≤ 64
  · have e1 : decide (8 < (n : Int)) = true := decide_eq_true (by omega)
    have e2 : decide ((n : Int) ≤ 64) = true := decide_eq_true (by omega)
    clear s1
    go_enter Tryz.func23, Tryz.ntmps23
    go_wp2
    go_ret
    exact ⟨true, rfl, (fun h => by cases h), hb⟩
  by_cases s2 : 67 < n
  · have e1 : decide (8 < (n : Int)) = true := decide_eq_true (by omega)
    have e2 : decide ((n : Int) ≤ 64) = false := decide_eq_false (by omega)
    have e3 : decide (67 < (n : Int)) = true := decide_eq_true (by omega)
    clear s1 s2
    go_enter Tryz.func23, Tryz.ntmps23
    go_wp2
    go_ret
    exact ⟨true, rfl, (fun h => by cases h), hb⟩
  have hsz : n ≤ 8 ∨ (65 ≤ n ∧ n ≤ 67) := by omega
  have e3 : decide (67 < (n : Int)) = false := decide_eq_false (by omega)
  have e12 : (decide (8 < (n : Int)) && decide ((n : Int) ≤ 64)) = false := by
    rcases hsz with h | h
    · rw [decide_eq_false (p := 8 < (n : Int)) (by omega)]; rfl
    · rw [decide_eq_false (p := (n : Int) ≤ 64) (by omega), Bool.and_false]
  have HZ := Lib.hid hsz
  have hstart : Hid (if n ≤ 8 then decide (8 < (n : Int)) = false else decide (8 < (n : Int)) = true ∧ decide ((n : Int) ≤ 64) = false) := by
    show if _ then _ else _
    split
    · exact decide_eq_false (by omega)
    · exact ⟨decide_eq_true (by omega), decide_eq_false (by omega)⟩
  clear s1 s2 hsz e12 hnm
  have hn67 : n ≤ 67 := by have := HZ.out; omega
  have main : ∀ (e1 : decide (8 < (n : Int)) = false ∨ (decide (8 < (n : Int)) = true ∧ decide ((n : Int) ≤ 64) = false)), Calls Tryz.prog 23 #[.slice A n c] w fun e w' => ∃ b, e = .returned (.bool b) ∧ (b = false → GoodP ps n) ∧ Below w.heap.size w w' := by
    intro e1
    clear hstart
    have loop : True := trivial
    rcases e1 with e1 | ⟨e1, e2⟩
    · have hn8 : n ≤ 8 := by have := of_decide_eq_false e1; omega
      clear loop
      go_enter Tryz.func23, Tryz.ntmps23
      go_wp2_with fail
      go_loopw [4] (fun iv wr => ∃ k : Nat, k ≤ n ∧ iv = .int .i64 (k : Int) ∧ Hid (∀ j t, j < k → ps[j]? = some t → t.amt.length ≤ 13) ∧ Below w.heap.size w wr) (fun iv _ => n - (intOf iv).toNat)
      case atStart => exact ⟨0, Nat.zero_le _, rfl, fun j t h => by omega, hb⟩
      case round =>
        clear hb
        obtain ⟨k, hk, rfl, HK, hb⟩ := hrel
        by_cases hlk : k < n
        · obtain ⟨t, ht⟩ : ∃ t, ps[k]? = some t := ⟨_, List.getElem?_eq_getElem (by omega)⟩
          obtain ⟨b, o, rfl, hbs, p0, p1⟩ := (HI.out.below hb) k t ht
          have C1 := Lib.hid (qLong (l := t.amt) rfl)
          have HT := Lib.hid ht
          clear ht
          by_cases gl : 13 < t.amt.length
          · rw [decide_eq_true gl] at C1
            clear gl
            go_wp2_with fail
            ((with_reducible refine (C1.out.of hG hb).mono ?_); rintro e w2 ⟨rfl, hb2⟩)
            go_wp2
            go_ret
            exact ⟨true, rfl, (fun h => by cases h), bto hb hb2⟩
          · rw [decide_eq_false gl] at C1
            have HK2 : Hid (∀ j t, j < k + 1 → ps[j]? = some t → t.amt.length ≤ 13) := fun j u hj hu => by
              rcases Nat.lt_or_ge j k with h1 | h1
              · exact HK.out j u h1 hu
              · obtain rfl : j = k := by omega
                rw [HT.out] at hu; injection hu with hu; rw [← hu]; omega
            clear gl HK
            go_wp2_with fail
            ((with_reducible refine (C1.out.of hG hb).mono ?_); rintro e w2 ⟨rfl, hb2⟩)
            replace hb := bto hb hb2
            clear hb2
            go_wp2
            go_roundw
            case rel => exact ⟨k + 1, by omega, by go_num, HK2.out, hb⟩
            case measure => simp [intOf]; omega
        obtain rfl : k = n := by omega
        have HA : Hid (∀ p ∈ ps, p.amt.length ≤ 13) := fun p hp => by
          obtain ⟨j, hj⟩ := List.getElem?_of_mem hp
          exact HK.out j p (by have := (List.getElem?_eq_some_iff.1 hj).1; omega) hj
        clear HK
        by_cases z0 : k = 0
        · subst z0
          have HGd : Hid (GoodP ps 0) := ⟨HN.out, HZ.out, HA.out, fun _ _ a z ha => by have := (List.getElem?_eq_some_iff.1 ha).1; omega⟩
          go_wp2_with fail
          go_quiet (fail)
          replace hb := bdrewN hb nq
          go_wp2
          go_ret
          exact ⟨false, rfl, fun _ => HGd.out, hb⟩
        have e5 : decide (0 < (k : Int)) = true := decide_eq_true (by omega)
        have e6 : decide ((k : Int) ≤ 8) = true := decide_eq_true (by omega)
        obtain ⟨j, rfl⟩ : ∃ j, k = j + 1 := ⟨k - 1, by omega⟩
        obtain ⟨z, hz⟩ : ∃ z, ps[j]? = some z := ⟨_, List.getElem?_eq_getElem (by omega)⟩
        obtain ⟨a, ha⟩ : ∃ a, ps[0]? = some a := ⟨_, List.getElem?_eq_getElem (by omega)⟩
        obtain ⟨b, o, rfl, hbs, p0, p1⟩ := (HI.out.below hb) j z hz
        obtain ⟨b', o', hA, hbs', r0, r1⟩ := (HI.out.below hb) 0 a ha
        obtain ⟨rfl, rfl⟩ : b = b' ∧ o = o' := by injection hA with hA; injection hA with h1 h2; exact ⟨h1, h2⟩
        simp only [Nat.zero_mul, Nat.add_zero] at r0
        have hjw : IntKind.i64.wrap (j : Int) = (j : Int) := Go.IntWalk.i64_in _ (by omega)
        have hj0 : (j : Int) < (j : Int) + 1 := by omega
        have hj1 : (0 : Int) < (j : Int) + 1 := by omega
        have hj2 : j < j + 1 := by omega
        have e7 : decide ((j : Int) + 1 ≤ 8) = true := decide_eq_true (by omega)
        have e8 : decide (0 < (j : Int) + 1) = true := decide_eq_true (by omega)
        have HSp : Hid (payE ps = 0 → ¬ 12 < IntKind.i64.wrap (z.per - a.per) → GoodP ps (j + 1)) := fun h0 hd => ⟨HN.out, HZ.out, HA.out, fun _ _ a' z' ha' hz' => by
          rw [ha] at ha'
          injection ha' with ha'
          rw [show j + 1 - 1 = j from rfl, hz] at hz'
          injection hz' with hz'
          subst ha' hz'
          obtain ⟨-, -, -, h4⟩ := payE_ok h0
          have x1 := h4 a (List.mem_of_getElem? ha)
          have x2 := h4 z (List.mem_of_getElem? hz)
          rw [Go.IntWalk.i64_in _ (by omega)] at hd
          omega⟩
        have HNo : Hid (¬ payE ps = 0 → GoodP ps (j + 1)) := fun h0 => ⟨HN.out, HZ.out, HA.out, fun h => absurd h h0⟩
        have CC : Hid (RetB wr 32 #[.slice (some ⟨b, o, none⟩) (j + 1) c] (.int .i64 (payE ps))) := mrCheckB (hG.below hb) ⟨HI.out.below hb, HN.out, fun p hp => Nat.le_trans (HA.out p hp) (by decide), by omega⟩ c
        clear hA hbs' r1 p1 z0 ha hz HA e5 e6 hn8 e1
        by_cases gd : 12 < IntKind.i64.wrap (z.per - a.per)
        rotate_left
        · have e9 : decide (12 < IntKind.i64.wrap (z.per - a.per)) = false := decide_eq_false gd
          have HGd : Hid (GoodP ps (j + 1)) := by
            by_cases h0 : payE ps = 0
            · exact HSp.out h0 gd
            · exact HNo.out h0
          clear HSp HNo CC gd
          go_wp2_with fail
          go_quiet (fail)
          replace hb := bdrewN hb nq
          go_wp2
          go_ret
          exact ⟨false, rfl, fun _ => HGd.out, hb⟩
        have e9 : decide (12 < IntKind.i64.wrap (z.per - a.per)) = true := decide_eq_true gd
        clear gd HSp
        obtain ⟨E, hE⟩ : ∃ E, E = payE ps := ⟨_, rfl⟩
        rw [← hE] at CC HNo
        clear hE
        go_wp2_with fail
        refine wp_region_kept (by kernel_rfl) (by kernel_rfl) ?_
        refine kept_val _ (fun _ => rfl) (fun ρ wz hw => by go_simp; first | done | with_reducible rfl) ?_
        simp only [Act.put, List.setIfInBounds_toArray, List.set_cons_zero, List.set_cons_succ, Nat.reduceAdd]
        refine kept_val _ (fun _ => rfl) (fun ρ wz hw => by go_simp; first | done | with_reducible rfl) ?_
        simp only [Act.put, List.setIfInBounds_toArray, List.set_cons_zero, List.set_cons_succ, Nat.reduceAdd]
        refine kept_val _ (fun _ => rfl) (fun ρ wz hw => by go_simp; first | done | with_reducible rfl) ?_
        simp only [Act.put, List.setIfInBounds_toArray, List.set_cons_zero, List.set_cons_succ, Nat.reduceAdd]
        refine kept_val _ (fun _ => rfl) (fun ρ wz hw => by go_simp; first | done | with_reducible rfl) ?_
        simp only [Act.put, List.setIfInBounds_toArray, List.set_cons_zero, List.set_cons_succ, Nat.reduceAdd]
        refine kept_val _ (fun _ => rfl) (fun ρ wz hw => by go_simp; first | done | with_reducible rfl) ?_
        simp only [Act.put, List.setIfInBounds_toArray, List.set_cons_zero, List.set_cons_succ, Nat.reduceAdd]
        refine kept_val _ (fun _ => rfl) (fun ρ wz hw => by go_simp; first | done | with_reducible rfl) ?_
        simp only [Act.put, List.setIfInBounds_toArray, List.set_cons_zero, List.set_cons_succ, Nat.reduceAdd]
        refine kept_val _ (fun _ => rfl) (fun ρ wz hw => by go_simp; first | done | with_reducible rfl) ?_
        simp only [Act.put, List.setIfInBounds_toArray, List.set_cons_zero, List.set_cons_succ, Nat.reduceAdd]
        refine kept_val _ (fun _ => rfl) (fun ρ wz hw => by go_simp; first | done | with_reducible rfl) ?_
        simp only [Act.put, List.setIfInBounds_toArray, List.set_cons_zero, List.set_cons_succ, Nat.reduceAdd]
        refine kept_val _ (fun _ => rfl) (fun ρ wz hw => by go_simp; first | done | with_reducible rfl) ?_
        simp only [Act.put, List.setIfInBounds_toArray, List.set_cons_zero, List.set_cons_succ, Nat.reduceAdd]
        refine kept_val _ (fun _ => rfl) (fun ρ wz hw => by go_simp; first | done | with_reducible rfl) ?_
        simp only [Act.put, List.setIfInBounds_toArray, List.set_cons_zero, List.set_cons_succ, Nat.reduceAdd]
        refine kept_val _ (fun _ => rfl) (fun ρ wz hw => by go_simp; first | done | with_reducible rfl) ?_
        simp only [Act.put, List.setIfInBounds_toArray, List.set_cons_zero, List.set_cons_succ, Nat.reduceAdd]
        refine kept_val _ (fun _ => rfl) (fun ρ wz hw => by go_simp; first | done | with_reducible rfl) ?_
        simp only [Act.put, List.setIfInBounds_toArray, List.set_cons_zero, List.set_cons_succ, Nat.reduceAdd]
        refine kept_val _ (fun _ => rfl) (fun ρ wz hw => by have q0 := (hw.cell (p := ⟨b, o + j * 2, none⟩) hbs).trans p0; go_simp; first | done | with_reducible rfl) ?_
        simp only [Act.put, List.setIfInBounds_toArray, List.set_cons_zero, List.set_cons_succ, Nat.reduceAdd]
        refine kept_val _ (fun _ => rfl) (fun ρ wz hw => by go_simp; first | done | with_reducible rfl) ?_
        simp only [Act.put, List.setIfInBounds_toArray, List.set_cons_zero, List.set_cons_succ, Nat.reduceAdd]
        refine kept_val _ (fun _ => rfl) (fun ρ wz hw => by go_simp; first | done | with_reducible rfl) ?_
        simp only [Act.put, List.setIfInBounds_toArray, List.set_cons_zero, List.set_cons_succ, Nat.reduceAdd]
        refine kept_val _ (fun _ => rfl) (fun ρ wz hw => by go_simp; first | done | with_reducible rfl) ?_
        simp only [Act.put, List.setIfInBounds_toArray, List.set_cons_zero, List.set_cons_succ, Nat.reduceAdd]
        refine kept_val _ (fun _ => rfl) (fun ρ wz hw => by have q0 := (hw.cell (p := ⟨b, o, none⟩) hbs).trans r0; go_simp; first | done | with_reducible rfl) ?_
        simp only [Act.put, List.setIfInBounds_toArray, List.set_cons_zero, List.set_cons_succ, Nat.reduceAdd]
        refine kept_val _ (fun _ => rfl) (fun ρ wz hw => by go_simp; first | done | with_reducible rfl) ?_
        simp only [Act.put, List.setIfInBounds_toArray, List.set_cons_zero, List.set_cons_succ, Nat.reduceAdd]
        refine kept_val _ (fun _ => rfl) (fun ρ wz hw => by go_simp; first | done | with_reducible rfl) ?_
        simp only [Act.put, List.setIfInBounds_toArray, List.set_cons_zero, List.set_cons_succ, Nat.reduceAdd]
        refine kept_val _ (fun _ => rfl) (fun ρ wz hw => by go_simp; first | done | with_reducible rfl) ?_
        simp only [Act.put, List.setIfInBounds_toArray, List.set_cons_zero, List.set_cons_succ, Nat.reduceAdd]
        refine kept_val _ (fun _ => rfl) (fun ρ wz hw => by go_simp; first | done | with_reducible rfl) ?_
        simp only [Act.put, List.setIfInBounds_toArray, List.set_cons_zero, List.set_cons_succ, Nat.reduceAdd]
        refine kept_val _ (fun _ => rfl) (fun ρ wz hw => by go_simp; first | done | with_reducible rfl) ?_
        simp only [Act.put, List.setIfInBounds_toArray, List.set_cons_zero, List.set_cons_succ, Nat.reduceAdd]
        refine kept_call _ _ _ (fun _ => rfl) (fun ρ wz hw => by go_simp; first | done | with_reducible rfl) (fun wz hw => CC.out wz hw) ?_
        simp only [Act.put, List.setIfInBounds_toArray, List.set_cons_zero, List.set_cons_succ, Nat.reduceAdd]
        refine kept_val _ (fun _ => rfl) (fun ρ wz hw => by go_simp; first | done | with_reducible rfl) ?_
        simp only [Act.put, List.setIfInBounds_toArray, List.set_cons_zero, List.set_cons_succ, Nat.reduceAdd]
        refine kept_val _ (fun _ => rfl) (fun ρ wz hw => by go_simp; first | done | with_reducible rfl) ?_
        simp only [Act.put, List.setIfInBounds_toArray, List.set_cons_zero, List.set_cons_succ, Nat.reduceAdd]
        refine kept_val _ (fun _ => rfl) (fun ρ wz hw => by go_simp; first | done | with_reducible rfl) ?_
        simp only [Act.put, List.setIfInBounds_toArray, List.set_cons_zero, List.set_cons_succ, Nat.reduceAdd]
        refine kept_end (fun ρ w2 hF => ?_)
        replace hb := bto hb hF.below
        clear hF
        go_wp2
        go_ret
        exact ⟨_, rfl, fun h => HNo.out (by intro h0; rw [h0] at h; cases h), hb⟩
    · have hn65 : 65 ≤ n := by have h1 := of_decide_eq_true e1; have h2 := of_decide_eq_false e2; have := HZ.out; omega
      clear loop
      go_enter Tryz.func23, Tryz.ntmps23
      go_wp2_with fail
      go_loopw [4] (fun iv wr => ∃ k : Nat, k ≤ n ∧ iv = .int .i64 (k : Int) ∧ Hid (∀ j t, j < k → ps[j]? = some t → t.amt.length ≤ 13) ∧ Below w.heap.size w wr) (fun iv _ => n - (intOf iv).toNat)
      case atStart => exact ⟨0, Nat.zero_le _, rfl, fun j t h => by omega, hb⟩
      case round =>
        clear hb
        obtain ⟨k, hk, rfl, HK, hb⟩ := hrel
        by_cases hlk : k < n
        · obtain ⟨t, ht⟩ : ∃ t, ps[k]? = some t := ⟨_, List.getElem?_eq_getElem (by omega)⟩
          obtain ⟨b, o, rfl, hbs, p0, p1⟩ := (HI.out.below hb) k t ht
          have C1 := Lib.hid (qLong (l := t.amt) rfl)
          have HT := Lib.hid ht
          clear ht
          by_cases gl : 13 < t.amt.length
          · rw [decide_eq_true gl] at C1
            clear gl
            go_wp2_with fail
            ((with_reducible refine (C1.out.of hG hb).mono ?_); rintro e w2 ⟨rfl, hb2⟩)
            go_wp2
            go_ret
            exact ⟨true, rfl, (fun h => by cases h), bto hb hb2⟩
          · rw [decide_eq_false gl] at C1
            have HK2 : Hid (∀ j t, j < k + 1 → ps[j]? = some t → t.amt.length ≤ 13) := fun j u hj hu => by
              rcases Nat.lt_or_ge j k with h1 | h1
              · exact HK.out j u h1 hu
              · obtain rfl : j = k := by omega
                rw [HT.out] at hu; injection hu with hu; rw [← hu]; omega
            clear gl HK
            go_wp2_with fail
            ((with_reducible refine (C1.out.of hG hb).mono ?_); rintro e w2 ⟨rfl, hb2⟩)
            replace hb := bto hb hb2
            clear hb2
            go_wp2
            go_roundw
            case rel => exact ⟨k + 1, by omega, by go_num, HK2.out, hb⟩
            case measure => simp [intOf]; omega
        obtain rfl : k = n := by omega
        have HA : Hid (∀ p ∈ ps, p.amt.length ≤ 13) := fun p hp => by
          obtain ⟨j, hj⟩ := List.getElem?_of_mem hp
          exact HK.out j p (by have := (List.getElem?_eq_some_iff.1 hj).1; omega) hj
        clear HK
        have hk0 : 0 < k := by omega
        have e5 : decide (0 < k) = true := decide_eq_true (by omega)
        have e6 : decide ((k : Int) ≤ 8) = false := decide_eq_false (by omega)
        have HGd : Hid (GoodP ps k) := ⟨HN.out, HZ.out, HA.out, fun _ h8 => absurd h8 (by omega)⟩
        go_wp2_with fail
        go_quiet (fail)
        replace hb := bdrewN hb nq
        go_wp2
        go_ret
        exact ⟨false, rfl, (fun _ => HGd.out), hb⟩
  refine main ?_
  have := hstart.out
  split at this
  · exact .inl this
  · exact .inr this
set_option maxHeartbeats 1000000 in
set_option maxRecDepth 100000 in
theorem wFine (A : Option Addr) (ps : List Pay) (n c : Nat) (w : World) (hG : Glob w) (hn : ps.length = n) (hnm : n ≤ 9223372036854775807) (h : PayAt w A ps) :
    Calls Tryz.prog 19 #[.slice A n c] w fun e w' => ∃ b, e = .returned (.bool b) ∧ (b = true → GoodP ps n ∧ payE ps = 0 ∧ chN (sumsL 0 (pzs ps)) = 1) ∧ Below w.heap.size w w' := by
  have HI := Lib.hid h
  clear h
  go_enter Tryz.func19, Tryz.ntmps19
  go_wp2_with fail
  ((with_reducible refine (mrGreat A ps n c w hG hn hnm HI.out).mono ?_); rintro e w1 ⟨b, rfl, hgd, hb⟩)
  cases b
  rotate_left
  · clear hgd
    go_wp2
    go_ret
    exact ⟨false, rfl, (fun h => by cases h), hb⟩
  have HGd := Lib.hid (hgd rfl)
  have HP := Lib.hid ((hgd rfl).pl HI.out)
  have C1 := Lib.hid (mrCheckB hG HP.out c)
  clear hgd hn hnm
  by_cases g : payE ps = 0
  rotate_left
  · have e1 : (payE ps != 0) = true := bneq' (intbne g)
    generalize payE ps = E at *
    clear g
    go_wp2_with fail
    ((with_reducible refine (C1.out.of hG hb).mono ?_); rintro e w2 ⟨rfl, hb2⟩)
    go_wp2
    go_ret
    exact ⟨false, rfl, (fun h => by cases h), bto hb hb2⟩
  have HG0 := Lib.hid g
  have HC : Hid (chgV ps = .tuple #[.int .i64 (chN (sumsL 0 (pzs ps)) : Int), .int .i64 0]) := if_pos g
  rw [g] at C1
  clear g
  go_wp2_with fail
  ((with_reducible refine (C1.out.of hG hb).mono ?_); rintro e w2 ⟨rfl, hb2⟩)
  replace hb := bto hb hb2
  clear hb2 C1
  have C2 := Lib.hid (mrChanges A ps n c w2 (hG.below hb) (HP.out.below hb))
  rw [HC.out] at C2
  go_wp2_with fail
  ((with_reducible refine (C2.out).mono ?_); rintro e w3 ⟨rfl, hb3⟩)
  replace hb := bto hb hb3
  by_cases gc : chN (sumsL 0 (pzs ps)) = 1
  · rw [gc]
    have HGc := Lib.hid gc
    clear gc hb3 C2 HC
    go_wp2
    go_ret
    exact ⟨true, rfl, fun _ => ⟨HGd.out, HG0.out, HGc.out⟩, hb⟩
  · have e1 : (((chN (sumsL 0 (pzs ps)) : Nat) : Int) == 1) = false := intbne (by omega)
    generalize ((chN (sumsL 0 (pzs ps)) : Nat) : Int) = ch at *
    clear gc hb3 C2 HC
    go_wp2
    go_ret
    exact ⟨false, rfl, (fun h => by cases h), hb⟩
end Go.Proofs.YtolbojchdlojnaaGreatDoor
