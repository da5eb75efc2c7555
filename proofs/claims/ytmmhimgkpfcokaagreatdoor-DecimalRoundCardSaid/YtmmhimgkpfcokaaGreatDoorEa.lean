/- trancheref03: rounding. -/
import Derived.Test.YtmmhimgkpfcokaaGreatDoorDg
import Derived.Test.YtmmhimgkpfcokaaGreatDoorCd
namespace Go.Proofs.YtmmhimgkpfcokaaGreatDoor
open Go.RowKit Num
theorem eMode {n : Int} (h0 : 1 ≤ n) (h1 : n ≤ 6) : Ret 128 #[.int .i64 n] (.bool true) := fun w hG => by
  have hb := Below.refl w.heap.size w
  have e1 : decide (1 ≤ n) = true := decide_eq_true h0
  have e2 : decide (n ≤ 6) = true := decide_eq_true h1
  go_enter Tryz.func128, Tryz.ntmps128
  go_wp2
  go_ret
  exact ⟨by first | rfl | simp_all, hb⟩
theorem eModeBad {n : Int} (h : n < 1 ∨ 6 < n) : Ret 128 #[.int .i64 n] (.bool false) := fun w hG => by
  have hb := Below.refl w.heap.size w
  by_cases h0 : 1 ≤ n
  · have e1 : decide (1 ≤ n) = true := decide_eq_true h0
    have h1 : ¬ n ≤ 6 := by omega
    have e2 : decide (n ≤ 6) = false := decide_eq_false h1
    go_enter Tryz.func128, Tryz.ntmps128
    go_wp2
    go_ret
    exact ⟨by first | rfl | simp_all, hb⟩
  · have e1 : decide (1 ≤ n) = false := decide_eq_false h0
    go_enter Tryz.func128, Tryz.ntmps128
    go_wp2
    go_ret
    exact ⟨by first | rfl | simp_all, hb⟩
theorem ePlaces {n : Int} (h0 : 0 ≤ n) (h1 : n ≤ 12) : Ret 100 #[.int .i64 n] (.bool true) := fun w hG => by
  have hb := Below.refl w.heap.size w
  have e1 : decide (0 ≤ n) = true := decide_eq_true h0
  have e2 : decide (n ≤ 12) = true := decide_eq_true h1
  go_enter Tryz.func100, Tryz.ntmps100
  go_wp2
  go_ret
  exact ⟨by first | rfl | simp_all, hb⟩
theorem ePlacesBad {n : Int} (h : n < 0 ∨ 12 < n) : Ret 100 #[.int .i64 n] (.bool false) := fun w hG => by
  have hb := Below.refl w.heap.size w
  by_cases h0 : 0 ≤ n
  · have e1 : decide (0 ≤ n) = true := decide_eq_true h0
    have h1 : ¬ n ≤ 12 := by omega
    have e2 : decide (n ≤ 12) = false := decide_eq_false h1
    go_enter Tryz.func100, Tryz.ntmps100
    go_wp2
    go_ret
    exact ⟨by first | rfl | simp_all, hb⟩
  · have e1 : decide (0 ≤ n) = false := decide_eq_false h0
    go_enter Tryz.func100, Tryz.ntmps100
    go_wp2
    go_ret
    exact ⟨by first | rfl | simp_all, hb⟩
theorem last_even {n : Nat} (h : n ≠ 0) : ∃ (S : List UInt8) (d : UInt8), dec n = S ++ [d] ∧ d.toNat = 48 + n % 10 := ⟨_, _, dec_pos n h, dg_toNat n⟩
theorem canon_last {z : Int} (h : z ≠ 0) : ∃ d : UInt8, (canon z)[(canon z).length - 1]? = some d ∧ d.toNat = 48 + z.natAbs % 10 ∧ 1 ≤ (canon z).length := by
  obtain ⟨S, d, h1, h2⟩ := last_even (n := z.natAbs) (by omega)
  refine ⟨d, ?_, h2, ?_⟩
  · unfold canon; rw [h1]
    split
    · rw [← List.cons_append]; simp
    · simp
  · unfold canon; rw [h1]; split <;> simp
set_option maxHeartbeats 1000000 in
set_option maxRecDepth 100000 in
theorem eEven {l : List UInt8} (hl : l.length ≤ 1000000) {z : Int} (e : val l = z) : Ret 187 #[.string ⟨l.toArray⟩] (.bool (decide (z % 2 = 0))) := fun w hG => by
  have C1 := Lib.hid (qCanonical hl e)
  have hb := Below.refl w.heap.size w
  have hcl : (canon z).length ≤ 1000001 := by rw [← e]; exact Nat.le_trans (canon_len_le _ _ (val_lt l)) (by omega)
  by_cases h : z = 0
  · obtain ⟨e1, e2⟩ := str_nil h
    have HV : Hid (decide (z % 2 = 0) = true) := by show _ = _; rw [h]; rfl
    rw [HV.out]
    generalize canon z = S at *
    clear e h
    go_enter Tryz.func187, Tryz.ntmps187
    go_wp2_with fail
    ((with_reducible refine (C1.out.of hG hb).mono ?_); rintro e w2 ⟨rfl, hb2⟩)
    go_wp2
    go_ret
    exact ⟨rfl, bto hb hb2⟩
  · obtain ⟨e1, e2⟩ := str_ne h
    obtain ⟨d, hd, hd2, hl1⟩ := canon_last h
    have HV : Hid (∀ b : Bool, b = decide ((d.toNat : Int) - 48 = 0 ∨ (d.toNat : Int) - 48 = 2 ∨ (d.toNat : Int) - 48 = 4 ∨ (d.toNat : Int) - 48 = 6 ∨ (d.toNat : Int) - 48 = 8) → b = decide (z % 2 = 0)) := by
      rintro b rfl
      rw [decide_eq_decide]
      omega
    have hd3 : 48 ≤ d.toNat := by omega
    have hd4 : d.toNat ≤ 57 := by omega
    generalize decide (z % 2 = 0) = V at *
    generalize canon z = S at *
    have hlt : S.length - 1 < (⟨S.toArray⟩ : ByteArray).size := by show S.length - 1 < S.toArray.size; simp; omega
    have hx2 : ∀ hp, (⟨S.toArray⟩ : ByteArray)[S.length - 1]'hp = d := fun hp => by
      have h2 : S.length - 1 < S.length := by omega
      have h3 : S[S.length - 1]? = some (S[S.length - 1]'h2) := List.getElem?_eq_getElem h2
      rw [h3] at hd
      injection hd
    have hx3 : ∀ hp, (⟨S.toArray⟩ : ByteArray)[((S.length : Int) - 1).toNat]'hp = d := fun hp => by
      have : ((S.length : Int) - 1).toNat = S.length - 1 := by omega
      have h2 := hx2 (by rw [← this]; exact hp)
      rw [← h2]; congr 1
    have hlt2 : ((S.length : Int) - 1).toNat < (⟨S.toArray⟩ : ByteArray).size := by have : ((S.length : Int) - 1).toNat = S.length - 1 := by omega
                                                                                    rw [this]; exact hlt
    clear e h hd hd2
    go_enter Tryz.func187, Tryz.ntmps187
    go_wp2_with fail
    ((with_reducible refine (C1.out.of hG hb).mono ?_); rintro e w2 ⟨rfl, hb2⟩)
    go_wp2
    go_ret
    refine ⟨?_, bto hb hb2⟩
    refine congrArg Ending.returned ?_
    refine congrArg Value.bool ?_
    apply HV.out
    rw [Bool.eq_iff_iff]
    simp
    omega
theorem half_dbl : (2 : Rat) * Rat.divInt 1 2 = 1 := by decide +kernel
theorem half_cmp (q : Rat) : cmpQ (q - q.floor) (Rat.divInt 1 2) = halfC q := by
  have h2 := half_dbl
  rcases halfC_cases q with ⟨e, h⟩ | ⟨e, h⟩ | ⟨e, h⟩
  · rw [e]; exact cmpQ_gt (by grind)
  · rw [e]
    have : q - q.floor = Rat.divInt 1 2 := by grind
    rw [this, cmpQ_self]
  · rw [e]; exact cmpQ_lt (by grind)
theorem sgn_cmp (q : Rat) : cmpQ q 0 = cmpZ q.num 0 := by
  unfold cmpQ
  have : q - 0 = q := by grind
  rw [this]
theorem rest_cmp (q : Rat) : cmpQ (q - q.floor) 0 = 0 ↔ q.num % q.den = 0 := by
  rw [cmpQ_eq, rest_zero, den_one]
  constructor <;> intro h <;> grind
set_option maxHeartbeats 4000000 in
set_option maxRecDepth 100000 in
theorem eRoundTo_w {l l' : List UInt8} {q : Rat} {k : Nat} (hl : l.length ≤ 200) (hl' : l'.length ≤ 200) (hq : fv l l' = q) (b : Bd k q) (hk : k ≤ 150) (hk1 : 1 ≤ k) (m : Int) (h0 : q.num % q.den = 0) : Ret 129 #[(Value.agg #[Value.string ⟨List.toArray l⟩, Value.string ⟨List.toArray l'⟩]), .int .i64 m] (.string ⟨(canon (rnd q m)).toArray⟩) := fun w hG => by
  have hd0 : (q.den : Int) ≠ 0 := by have := q.den_nz; omega
  have hfl := Nat.lt_of_le_of_lt (fl_abs q) b.1
  have bfl := bd_int hfl hk1
  have bds := bd_sub b bfl
  have lfl := canon_len_le _ _ hfl
  have lN := bd_len bfl
  have lS := bd_len bds
  have lM := bd_len (bd_neg bfl)
  have c1 := sFloor (l := l) (l' := l') (by omega) (by omega) (z := q.floor) (by rw [hq])
  have c2 := sOf (l := canon q.floor) (by omega) (show Rat.divInt (val (canon q.floor)) 1 = (q.floor : Rat) by rw [val_canon]; exact Rat.num_divInt_den ((q.floor : Int) : Rat))
  have c3 := sSub (l := l) (l' := l') (k := fN (q.floor : Rat)) (k' := fD (q.floor : Rat)) (by omega) (by omega) (by omega) (by omega) (by rw [fv_frac]; omega) (by rw [fv_frac]; omega) (q := q - q.floor) (by rw [hq, fv_frac])
  have cZ := sOf (l := []) (by decide) (show Rat.divInt (val []) 1 = 0 by decide +kernel)
  have c4 := sCompare (l := fN (q - q.floor)) (l' := fD (q - q.floor)) (k := fN 0) (k' := fD 0) (by omega) (by omega) (by decide) (by decide) (show cmpQ (fv (fN (q - q.floor)) (fD (q - q.floor))) (fv (fN 0) (fD 0)) = cmpQ (q - q.floor) 0 by rw [fv_frac, fv_frac])
  have c5 := qAdd (l := canon q.floor) (l' := [49]) (by omega) (by decide) (show val (canon q.floor) + val [49] = q.floor + 1 by rw [val_canon]; rfl)
  have c6 := sNew1 (l := [49]) (l' := [50]) (by decide) (by decide) (by decide) (show fv [49] [50] = Rat.divInt 1 2 by decide +kernel)
  have c7 := sCompare (l := fN (q - q.floor)) (l' := fD (q - q.floor)) (k := fN (Rat.divInt 1 2)) (k' := fD (Rat.divInt 1 2)) (by omega) (by omega) (by decide +kernel) (by decide +kernel) (show cmpQ (fv (fN (q - q.floor)) (fD (q - q.floor))) (fv (fN (Rat.divInt 1 2)) (fD (Rat.divInt 1 2))) = halfC q by rw [fv_frac, fv_frac, half_cmp])
  have c8 := sCompare (l := l) (l' := l') (k := fN 0) (k' := fD 0) (by omega) (by omega) (by decide) (by decide) (show cmpQ (fv l l') (fv (fN 0) (fD 0)) = cmpZ q.num 0 by rw [hq, fv_frac, sgn_cmp])
  have cE := eEven (l := canon q.floor) (by omega) (val_canon q.floor)
  have hf := rndF q
  have hsf0 := sgn_fl q
  have hrc := rest_cmp q
  have x2 := FBox.new w (.string ⟨l.toArray⟩) (.string ⟨l'.toArray⟩) 32
  have hb := below_alloc w (.cells #[.string ⟨l.toArray⟩, .string ⟨l'.toArray⟩] 32)
  clear hd0 hfl bfl bds lfl lN lS lM hl hl' b hk hk1 hq
  generalize cmpQ (q - q.floor) 0 = c0 at *
  generalize fN (q - q.floor) = R0 at *
  generalize fD (q - q.floor) = R1 at *
  generalize fN (q.floor : Rat) = F0 at *
  generalize fD (q.floor : Rat) = F1 at *
  generalize q.floor = fl at *
  generalize q.num % q.den = r at *
  generalize halfC q = c at *
  generalize cmpZ q.num 0 = s at *
  generalize fN (Rat.divInt 1 2) = H0 at *
  generalize fD (Rat.divInt 1 2) = H1 at *
  generalize fN (0 : Rat) = Z0 at *
  generalize fD (0 : Rat) = Z1 at *
  have C1 := Lib.hid c1
  have C2 := Lib.hid c2
  have C3 := Lib.hid c3
  have CZ := Lib.hid cZ
  have C4 := Lib.hid c4
  have C5 := Lib.hid c5
  have C6 := Lib.hid c6
  have C7 := Lib.hid c7
  have C8 := Lib.hid c8
  have HE := Lib.hid cE
  have HF := Lib.hid hf
  have hsf := Lib.hid hsf0
  have HR0 := Lib.hid hrc
  clear c1 c2 c3 cZ c4 c5 c6 c7 c8 cE hf hsf0 hrc
  have hc0 := HR0.out.2 h0
  have e1 := intbeq hc0
  have HR := Lib.hid (rnd_whole HF.out h0 m)
  clear HF hsf HR0 h0 hc0
  go_enter Tryz.func129, Tryz.ntmps129
  have qx2_0 := x2.c0
  have qx2_1 := x2.c1
  go_wp2_with fail
  ((with_reducible refine (C1.out.of hG hb).mono ?_); rintro e w2 ⟨rfl, hb2⟩)
  clear qx2_0 qx2_1
  replace x2 := x2.below hb2
  replace hb := bto hb hb2
  clear hb2
  go_wp2_with fail
  refine wp_region_kept (by kernel_rfl) (by kernel_rfl) ?_
  refine kept_val _ (fun _ => rfl) (fun ρ w hw => by have q0 := (x2.below hw).c0; have q1 := (x2.below hw).c1; go_simp; first | done | with_reducible rfl) ?_
  simp only [Act.put, List.setIfInBounds_toArray, List.set_cons_zero, List.set_cons_succ, Nat.reduceAdd]
  refine kept_val _ (fun _ => rfl) (fun ρ w hw => by go_simp; first | done | with_reducible rfl) ?_
  simp only [Act.put, List.setIfInBounds_toArray, List.set_cons_zero, List.set_cons_succ, Nat.reduceAdd]
  refine kept_call _ _ _ (fun _ => rfl) (fun ρ w hw => by go_simp; first | done | with_reducible rfl) (fun w hw => C2.out.of hG (bto hb hw)) ?_
  simp only [Act.put, List.setIfInBounds_toArray, List.set_cons_zero, List.set_cons_succ, Nat.reduceAdd]
  refine kept_call _ _ _ (fun _ => rfl) (fun ρ w hw => by go_simp; first | done | with_reducible rfl) (fun w hw => C3.out.of hG (bto hb hw)) ?_
  simp only [Act.put, List.setIfInBounds_toArray, List.set_cons_zero, List.set_cons_succ, Nat.reduceAdd]
  refine kept_box (fun b => .pointer (some ⟨b, 0, none⟩)) _ rfl (fun _ => rfl) (fun ρ w hw => by go_simp; first | done | with_reducible rfl) ?_
  simp only [Act.put, List.setIfInBounds_toArray, List.set_cons_zero, List.set_cons_succ, Nat.reduceAdd]
  refine kept_put2 4 _ 6 _ _ _ _ _ rfl rfl rfl (by decide) (fun _ => rfl) (fun ρ w hw q0 q1 q2 q3 => by go_simp; first | done | with_reducible rfl) ?_
  simp only [Act.put, Nat.reduceAdd]
  refine kept_end (fun ρ w3 hF => ?_)
  replace x2 := x2.below hF.below
  replace hb := bto hb hF.below
  have x6 := FBox.ofB (hF.box 4 _ _ rfl).2
  generalize ρ 4 = b6 at *
  clear hF
  go_wp2_with fail
  ((with_reducible refine (CZ.out.of hG hb).mono ?_); rintro e w4 ⟨rfl, hb4⟩)
  replace x2 := x2.below hb4
  replace x6 := x6.below hb4
  replace hb := bto hb hb4
  clear hb4
  replace x2 := x2.below (below_alloc w4 (.cells #[.string ⟨Z0.toArray⟩, .string ⟨Z1.toArray⟩] 32))
  replace x6 := x6.below (below_alloc w4 (.cells #[.string ⟨Z0.toArray⟩, .string ⟨Z1.toArray⟩] 32))
  have x7 := FBox.new w4 (.string ⟨Z0.toArray⟩) (.string ⟨Z1.toArray⟩) 32
  replace hb := bto hb (below_alloc w4 (.cells #[.string ⟨Z0.toArray⟩, .string ⟨Z1.toArray⟩] 32))
  have qx6_0 := x6.c0
  have qx6_1 := x6.c1
  have qx7_0 := x7.c0
  have qx7_1 := x7.c1
  go_wp2_with fail
  ((with_reducible refine (C4.out.of hG hb).mono ?_); rintro e w5 ⟨rfl, hb5⟩)
  clear qx6_0 qx6_1 qx7_0 qx7_1
  replace x2 := x2.below hb5
  replace x6 := x6.below hb5
  replace x7 := x7.below hb5
  replace hb := bto hb hb5
  clear hb5
  go_wp2
  go_ret
  exact ⟨by rw [HR.out]; first | done | rfl, hb⟩
set_option maxHeartbeats 4000000 in
set_option maxRecDepth 100000 in
theorem eRoundTo_r1 {l l' : List UInt8} {q : Rat} {k : Nat} (hl : l.length ≤ 200) (hl' : l'.length ≤ 200) (hq : fv l l' = q) (b : Bd k q) (hk : k ≤ 150) (hk1 : 1 ≤ k) (m : Int) (hm : m = 1) (h0 : q.num % q.den ≠ 0) : Ret 129 #[(Value.agg #[Value.string ⟨List.toArray l⟩, Value.string ⟨List.toArray l'⟩]), .int .i64 m] (.string ⟨(canon (rnd q m)).toArray⟩) := fun w hG => by
  have hd0 : (q.den : Int) ≠ 0 := by have := q.den_nz; omega
  have hfl := Nat.lt_of_le_of_lt (fl_abs q) b.1
  have bfl := bd_int hfl hk1
  have bds := bd_sub b bfl
  have lfl := canon_len_le _ _ hfl
  have lN := bd_len bfl
  have lS := bd_len bds
  have lM := bd_len (bd_neg bfl)
  have c1 := sFloor (l := l) (l' := l') (by omega) (by omega) (z := q.floor) (by rw [hq])
  have c2 := sOf (l := canon q.floor) (by omega) (show Rat.divInt (val (canon q.floor)) 1 = (q.floor : Rat) by rw [val_canon]; exact Rat.num_divInt_den ((q.floor : Int) : Rat))
  have c3 := sSub (l := l) (l' := l') (k := fN (q.floor : Rat)) (k' := fD (q.floor : Rat)) (by omega) (by omega) (by omega) (by omega) (by rw [fv_frac]; omega) (by rw [fv_frac]; omega) (q := q - q.floor) (by rw [hq, fv_frac])
  have cZ := sOf (l := []) (by decide) (show Rat.divInt (val []) 1 = 0 by decide +kernel)
  have c4 := sCompare (l := fN (q - q.floor)) (l' := fD (q - q.floor)) (k := fN 0) (k' := fD 0) (by omega) (by omega) (by decide) (by decide) (show cmpQ (fv (fN (q - q.floor)) (fD (q - q.floor))) (fv (fN 0) (fD 0)) = cmpQ (q - q.floor) 0 by rw [fv_frac, fv_frac])
  have c5 := qAdd (l := canon q.floor) (l' := [49]) (by omega) (by decide) (show val (canon q.floor) + val [49] = q.floor + 1 by rw [val_canon]; rfl)
  have c6 := sNew1 (l := [49]) (l' := [50]) (by decide) (by decide) (by decide) (show fv [49] [50] = Rat.divInt 1 2 by decide +kernel)
  have c7 := sCompare (l := fN (q - q.floor)) (l' := fD (q - q.floor)) (k := fN (Rat.divInt 1 2)) (k' := fD (Rat.divInt 1 2)) (by omega) (by omega) (by decide +kernel) (by decide +kernel) (show cmpQ (fv (fN (q - q.floor)) (fD (q - q.floor))) (fv (fN (Rat.divInt 1 2)) (fD (Rat.divInt 1 2))) = halfC q by rw [fv_frac, fv_frac, half_cmp])
  have c8 := sCompare (l := l) (l' := l') (k := fN 0) (k' := fD 0) (by omega) (by omega) (by decide) (by decide) (show cmpQ (fv l l') (fv (fN 0) (fD 0)) = cmpZ q.num 0 by rw [hq, fv_frac, sgn_cmp])
  have cE := eEven (l := canon q.floor) (by omega) (val_canon q.floor)
  have hf := rndF q
  have hsf0 := sgn_fl q
  have hrc := rest_cmp q
  have x2 := FBox.new w (.string ⟨l.toArray⟩) (.string ⟨l'.toArray⟩) 32
  have hb := below_alloc w (.cells #[.string ⟨l.toArray⟩, .string ⟨l'.toArray⟩] 32)
  clear hd0 hfl bfl bds lfl lN lS lM hl hl' b hk hk1 hq
  generalize cmpQ (q - q.floor) 0 = c0 at *
  generalize fN (q - q.floor) = R0 at *
  generalize fD (q - q.floor) = R1 at *
  generalize fN (q.floor : Rat) = F0 at *
  generalize fD (q.floor : Rat) = F1 at *
  generalize q.floor = fl at *
  generalize q.num % q.den = r at *
  generalize halfC q = c at *
  generalize cmpZ q.num 0 = s at *
  generalize fN (Rat.divInt 1 2) = H0 at *
  generalize fD (Rat.divInt 1 2) = H1 at *
  generalize fN (0 : Rat) = Z0 at *
  generalize fD (0 : Rat) = Z1 at *
  have C1 := Lib.hid c1
  have C2 := Lib.hid c2
  have C3 := Lib.hid c3
  have CZ := Lib.hid cZ
  have C4 := Lib.hid c4
  have C5 := Lib.hid c5
  have C6 := Lib.hid c6
  have C7 := Lib.hid c7
  have C8 := Lib.hid c8
  have HE := Lib.hid cE
  have HF := Lib.hid hf
  have hsf := Lib.hid hsf0
  have HR0 := Lib.hid hrc
  clear c1 c2 c3 cZ c4 c5 c6 c7 c8 cE hf hsf0 hrc
  have hc0 : ¬ c0 = 0 := fun h => h0 (HR0.out.1 h)
  have e1 := intbne hc0
  have hr := Lib.hid h0
  clear HR0 h0
  go_enter Tryz.func129, Tryz.ntmps129
  have qx2_0 := x2.c0
  have qx2_1 := x2.c1
  go_wp2_with fail
  ((with_reducible refine (C1.out.of hG hb).mono ?_); rintro e w2 ⟨rfl, hb2⟩)
  clear qx2_0 qx2_1
  replace x2 := x2.below hb2
  replace hb := bto hb hb2
  clear hb2
  go_wp2_with fail
  refine wp_region_kept (by kernel_rfl) (by kernel_rfl) ?_
  refine kept_val _ (fun _ => rfl) (fun ρ w hw => by have q0 := (x2.below hw).c0; have q1 := (x2.below hw).c1; go_simp; first | done | with_reducible rfl) ?_
  simp only [Act.put, List.setIfInBounds_toArray, List.set_cons_zero, List.set_cons_succ, Nat.reduceAdd]
  refine kept_val _ (fun _ => rfl) (fun ρ w hw => by go_simp; first | done | with_reducible rfl) ?_
  simp only [Act.put, List.setIfInBounds_toArray, List.set_cons_zero, List.set_cons_succ, Nat.reduceAdd]
  refine kept_call _ _ _ (fun _ => rfl) (fun ρ w hw => by go_simp; first | done | with_reducible rfl) (fun w hw => C2.out.of hG (bto hb hw)) ?_
  simp only [Act.put, List.setIfInBounds_toArray, List.set_cons_zero, List.set_cons_succ, Nat.reduceAdd]
  refine kept_call _ _ _ (fun _ => rfl) (fun ρ w hw => by go_simp; first | done | with_reducible rfl) (fun w hw => C3.out.of hG (bto hb hw)) ?_
  simp only [Act.put, List.setIfInBounds_toArray, List.set_cons_zero, List.set_cons_succ, Nat.reduceAdd]
  refine kept_box (fun b => .pointer (some ⟨b, 0, none⟩)) _ rfl (fun _ => rfl) (fun ρ w hw => by go_simp; first | done | with_reducible rfl) ?_
  simp only [Act.put, List.setIfInBounds_toArray, List.set_cons_zero, List.set_cons_succ, Nat.reduceAdd]
  refine kept_put2 4 _ 6 _ _ _ _ _ rfl rfl rfl (by decide) (fun _ => rfl) (fun ρ w hw q0 q1 q2 q3 => by go_simp; first | done | with_reducible rfl) ?_
  simp only [Act.put, Nat.reduceAdd]
  refine kept_end (fun ρ w3 hF => ?_)
  replace x2 := x2.below hF.below
  replace hb := bto hb hF.below
  have x6 := FBox.ofB (hF.box 4 _ _ rfl).2
  generalize ρ 4 = b6 at *
  clear hF
  go_wp2_with fail
  ((with_reducible refine (CZ.out.of hG hb).mono ?_); rintro e w4 ⟨rfl, hb4⟩)
  replace x2 := x2.below hb4
  replace x6 := x6.below hb4
  replace hb := bto hb hb4
  clear hb4
  replace x2 := x2.below (below_alloc w4 (.cells #[.string ⟨Z0.toArray⟩, .string ⟨Z1.toArray⟩] 32))
  replace x6 := x6.below (below_alloc w4 (.cells #[.string ⟨Z0.toArray⟩, .string ⟨Z1.toArray⟩] 32))
  have x7 := FBox.new w4 (.string ⟨Z0.toArray⟩) (.string ⟨Z1.toArray⟩) 32
  replace hb := bto hb (below_alloc w4 (.cells #[.string ⟨Z0.toArray⟩, .string ⟨Z1.toArray⟩] 32))
  have qx6_0 := x6.c0
  have qx6_1 := x6.c1
  have qx7_0 := x7.c0
  have qx7_1 := x7.c1
  go_wp2_with fail
  ((with_reducible refine (C4.out.of hG hb).mono ?_); rintro e w5 ⟨rfl, hb5⟩)
  clear qx6_0 qx6_1 qx7_0 qx7_1
  replace x2 := x2.below hb5
  replace x6 := x6.below hb5
  replace x7 := x7.below hb5
  replace hb := bto hb hb5
  clear hb5
  go_wp2_with fail
  ((with_reducible refine (C5.out.of hG hb).mono ?_); rintro e w6 ⟨rfl, hb6⟩)
  replace x2 := x2.below hb6
  replace x6 := x6.below hb6
  replace x7 := x7.below hb6
  replace hb := bto hb hb6
  clear hb6
  go_wp2_with fail
  ((with_reducible refine (C6.out.of hG hb).mono ?_); rintro e w7 ⟨rfl, hb7⟩)
  replace x2 := x2.below hb7
  replace x6 := x6.below hb7
  replace x7 := x7.below hb7
  replace hb := bto hb hb7
  clear hb7
  replace x2 := x2.below (below_alloc w7 (.cells #[.string ⟨H0.toArray⟩, .string ⟨H1.toArray⟩] 32))
  replace x6 := x6.below (below_alloc w7 (.cells #[.string ⟨H0.toArray⟩, .string ⟨H1.toArray⟩] 32))
  replace x7 := x7.below (below_alloc w7 (.cells #[.string ⟨H0.toArray⟩, .string ⟨H1.toArray⟩] 32))
  have x9 := FBox.new w7 (.string ⟨H0.toArray⟩) (.string ⟨H1.toArray⟩) 32
  replace hb := bto hb (below_alloc w7 (.cells #[.string ⟨H0.toArray⟩, .string ⟨H1.toArray⟩] 32))
  have qx6_0 := x6.c0
  have qx6_1 := x6.c1
  have qx9_0 := x9.c0
  have qx9_1 := x9.c1
  go_wp2_with fail
  ((with_reducible refine (C7.out.of hG hb).mono ?_); rintro e w8 ⟨rfl, hb8⟩)
  clear qx6_0 qx6_1 qx9_0 qx9_1
  replace x2 := x2.below hb8
  replace x6 := x6.below hb8
  replace x7 := x7.below hb8
  replace x9 := x9.below hb8
  replace hb := bto hb hb8
  clear hb8
  have qx2_0 := x2.c0
  have qx2_1 := x2.c1
  have qx7_0 := x7.c0
  have qx7_1 := x7.c1
  go_wp2_with fail
  ((with_reducible refine (C8.out.of hG hb).mono ?_); rintro e w9 ⟨rfl, hb9⟩)
  clear qx2_0 qx2_1 qx7_0 qx7_1
  replace x2 := x2.below hb9
  replace x6 := x6.below hb9
  replace x7 := x7.below hb9
  replace x9 := x9.below hb9
  replace hb := bto hb hb9
  clear hb9
  clear x2
  clear x6
  clear x7
  clear x9
  clear e1 hc0
  subst hm
  by_cases g1 : 0 < c
  · have g1' : decide (0 < c) = true := decide_eq_true g1
    have HR := Lib.hid (rnd_up HF.out hr.out (m := 1) (by simp [upB, g1]))
    clear HF hsf hr
    go_wp2
    go_ret
    exact ⟨by rw [HR.out]; first | done | rfl, hb⟩
  have g1' : decide (0 < c) = false := decide_eq_false g1
  by_cases g2 : c = 0
  rotate_left
  · have g2' : (c == 0) = false := by rw [beq_eq_false_iff_ne]; exact g2
    have HR := Lib.hid (rnd_dn HF.out hr.out (m := 1) (by simp [upB, g1, g2]))
    clear HF hsf hr
    go_wp2
    go_ret
    exact ⟨by rw [HR.out]; first | done | rfl, hb⟩
  have g2' : (c == 0) = true := by rw [beq_iff_eq]; exact g2
  by_cases g3 : fl % 2 = 0
  · have g3' : decide (fl % 2 = 0) = true := decide_eq_true g3
    have HR := Lib.hid (rnd_dn HF.out hr.out (m := 1) (by simp [upB, g1, g3]))
    clear HF hsf hr
    go_wp2_with fail
    ((with_reducible refine (HE.out.of hG hb).mono ?_); rintro e w9 ⟨rfl, hb9⟩)
    replace hb := bto hb hb9
    rw [g3']
    go_wp2
    go_ret
    exact ⟨by rw [HR.out]; first | done | rfl, hb⟩
  · have g3' : decide (fl % 2 = 0) = false := decide_eq_false g3
    have HR := Lib.hid (rnd_up HF.out hr.out (m := 1) (by simp [upB, g2, g3]))
    clear HF hsf hr
    go_wp2_with fail
    ((with_reducible refine (HE.out.of hG hb).mono ?_); rintro e w9 ⟨rfl, hb9⟩)
    replace hb := bto hb hb9
    rw [g3']
    go_wp2
    go_ret
    exact ⟨by rw [HR.out]; first | done | rfl, hb⟩
set_option maxHeartbeats 4000000 in
set_option maxRecDepth 100000 in
theorem eRoundTo_r2 {l l' : List UInt8} {q : Rat} {k : Nat} (hl : l.length ≤ 200) (hl' : l'.length ≤ 200) (hq : fv l l' = q) (b : Bd k q) (hk : k ≤ 150) (hk1 : 1 ≤ k) (m : Int) (hm : m = 2) (h0 : q.num % q.den ≠ 0) : Ret 129 #[(Value.agg #[Value.string ⟨List.toArray l⟩, Value.string ⟨List.toArray l'⟩]), .int .i64 m] (.string ⟨(canon (rnd q m)).toArray⟩) := fun w hG => by
  have hd0 : (q.den : Int) ≠ 0 := by have := q.den_nz; omega
  have hfl := Nat.lt_of_le_of_lt (fl_abs q) b.1
  have bfl := bd_int hfl hk1
  have bds := bd_sub b bfl
  have lfl := canon_len_le _ _ hfl
  have lN := bd_len bfl
  have lS := bd_len bds
  have lM := bd_len (bd_neg bfl)
  have c1 := sFloor (l := l) (l' := l') (by omega) (by omega) (z := q.floor) (by rw [hq])
  have c2 := sOf (l := canon q.floor) (by omega) (show Rat.divInt (val (canon q.floor)) 1 = (q.floor : Rat) by rw [val_canon]; exact Rat.num_divInt_den ((q.floor : Int) : Rat))
  have c3 := sSub (l := l) (l' := l') (k := fN (q.floor : Rat)) (k' := fD (q.floor : Rat)) (by omega) (by omega) (by omega) (by omega) (by rw [fv_frac]; omega) (by rw [fv_frac]; omega) (q := q - q.floor) (by rw [hq, fv_frac])
  have cZ := sOf (l := []) (by decide) (show Rat.divInt (val []) 1 = 0 by decide +kernel)
  have c4 := sCompare (l := fN (q - q.floor)) (l' := fD (q - q.floor)) (k := fN 0) (k' := fD 0) (by omega) (by omega) (by decide) (by decide) (show cmpQ (fv (fN (q - q.floor)) (fD (q - q.floor))) (fv (fN 0) (fD 0)) = cmpQ (q - q.floor) 0 by rw [fv_frac, fv_frac])
  have c5 := qAdd (l := canon q.floor) (l' := [49]) (by omega) (by decide) (show val (canon q.floor) + val [49] = q.floor + 1 by rw [val_canon]; rfl)
  have c6 := sNew1 (l := [49]) (l' := [50]) (by decide) (by decide) (by decide) (show fv [49] [50] = Rat.divInt 1 2 by decide +kernel)
  have c7 := sCompare (l := fN (q - q.floor)) (l' := fD (q - q.floor)) (k := fN (Rat.divInt 1 2)) (k' := fD (Rat.divInt 1 2)) (by omega) (by omega) (by decide +kernel) (by decide +kernel) (show cmpQ (fv (fN (q - q.floor)) (fD (q - q.floor))) (fv (fN (Rat.divInt 1 2)) (fD (Rat.divInt 1 2))) = halfC q by rw [fv_frac, fv_frac, half_cmp])
  have c8 := sCompare (l := l) (l' := l') (k := fN 0) (k' := fD 0) (by omega) (by omega) (by decide) (by decide) (show cmpQ (fv l l') (fv (fN 0) (fD 0)) = cmpZ q.num 0 by rw [hq, fv_frac, sgn_cmp])
  have cE := eEven (l := canon q.floor) (by omega) (val_canon q.floor)
  have hf := rndF q
  have hsf0 := sgn_fl q
  have hrc := rest_cmp q
  have x2 := FBox.new w (.string ⟨l.toArray⟩) (.string ⟨l'.toArray⟩) 32
  have hb := below_alloc w (.cells #[.string ⟨l.toArray⟩, .string ⟨l'.toArray⟩] 32)
  clear hd0 hfl bfl bds lfl lN lS lM hl hl' b hk hk1 hq
  generalize cmpQ (q - q.floor) 0 = c0 at *
  generalize fN (q - q.floor) = R0 at *
  generalize fD (q - q.floor) = R1 at *
  generalize fN (q.floor : Rat) = F0 at *
  generalize fD (q.floor : Rat) = F1 at *
  generalize q.floor = fl at *
  generalize q.num % q.den = r at *
  generalize halfC q = c at *
  generalize cmpZ q.num 0 = s at *
  generalize fN (Rat.divInt 1 2) = H0 at *
  generalize fD (Rat.divInt 1 2) = H1 at *
  generalize fN (0 : Rat) = Z0 at *
  generalize fD (0 : Rat) = Z1 at *
  have C1 := Lib.hid c1
  have C2 := Lib.hid c2
  have C3 := Lib.hid c3
  have CZ := Lib.hid cZ
  have C4 := Lib.hid c4
  have C5 := Lib.hid c5
  have C6 := Lib.hid c6
  have C7 := Lib.hid c7
  have C8 := Lib.hid c8
  have HE := Lib.hid cE
  have HF := Lib.hid hf
  have hsf := Lib.hid hsf0
  have HR0 := Lib.hid hrc
  clear c1 c2 c3 cZ c4 c5 c6 c7 c8 cE hf hsf0 hrc
  have hc0 : ¬ c0 = 0 := fun h => h0 (HR0.out.1 h)
  have e1 := intbne hc0
  have hr := Lib.hid h0
  clear HR0 h0
  go_enter Tryz.func129, Tryz.ntmps129
  have qx2_0 := x2.c0
  have qx2_1 := x2.c1
  go_wp2_with fail
  ((with_reducible refine (C1.out.of hG hb).mono ?_); rintro e w2 ⟨rfl, hb2⟩)
  clear qx2_0 qx2_1
  replace x2 := x2.below hb2
  replace hb := bto hb hb2
  clear hb2
  go_wp2_with fail
  refine wp_region_kept (by kernel_rfl) (by kernel_rfl) ?_
  refine kept_val _ (fun _ => rfl) (fun ρ w hw => by have q0 := (x2.below hw).c0; have q1 := (x2.below hw).c1; go_simp; first | done | with_reducible rfl) ?_
  simp only [Act.put, List.setIfInBounds_toArray, List.set_cons_zero, List.set_cons_succ, Nat.reduceAdd]
  refine kept_val _ (fun _ => rfl) (fun ρ w hw => by go_simp; first | done | with_reducible rfl) ?_
  simp only [Act.put, List.setIfInBounds_toArray, List.set_cons_zero, List.set_cons_succ, Nat.reduceAdd]
  refine kept_call _ _ _ (fun _ => rfl) (fun ρ w hw => by go_simp; first | done | with_reducible rfl) (fun w hw => C2.out.of hG (bto hb hw)) ?_
  simp only [Act.put, List.setIfInBounds_toArray, List.set_cons_zero, List.set_cons_succ, Nat.reduceAdd]
  refine kept_call _ _ _ (fun _ => rfl) (fun ρ w hw => by go_simp; first | done | with_reducible rfl) (fun w hw => C3.out.of hG (bto hb hw)) ?_
  simp only [Act.put, List.setIfInBounds_toArray, List.set_cons_zero, List.set_cons_succ, Nat.reduceAdd]
  refine kept_box (fun b => .pointer (some ⟨b, 0, none⟩)) _ rfl (fun _ => rfl) (fun ρ w hw => by go_simp; first | done | with_reducible rfl) ?_
  simp only [Act.put, List.setIfInBounds_toArray, List.set_cons_zero, List.set_cons_succ, Nat.reduceAdd]
  refine kept_put2 4 _ 6 _ _ _ _ _ rfl rfl rfl (by decide) (fun _ => rfl) (fun ρ w hw q0 q1 q2 q3 => by go_simp; first | done | with_reducible rfl) ?_
  simp only [Act.put, Nat.reduceAdd]
  refine kept_end (fun ρ w3 hF => ?_)
  replace x2 := x2.below hF.below
  replace hb := bto hb hF.below
  have x6 := FBox.ofB (hF.box 4 _ _ rfl).2
  generalize ρ 4 = b6 at *
  clear hF
  go_wp2_with fail
  ((with_reducible refine (CZ.out.of hG hb).mono ?_); rintro e w4 ⟨rfl, hb4⟩)
  replace x2 := x2.below hb4
  replace x6 := x6.below hb4
  replace hb := bto hb hb4
  clear hb4
  replace x2 := x2.below (below_alloc w4 (.cells #[.string ⟨Z0.toArray⟩, .string ⟨Z1.toArray⟩] 32))
  replace x6 := x6.below (below_alloc w4 (.cells #[.string ⟨Z0.toArray⟩, .string ⟨Z1.toArray⟩] 32))
  have x7 := FBox.new w4 (.string ⟨Z0.toArray⟩) (.string ⟨Z1.toArray⟩) 32
  replace hb := bto hb (below_alloc w4 (.cells #[.string ⟨Z0.toArray⟩, .string ⟨Z1.toArray⟩] 32))
  have qx6_0 := x6.c0
  have qx6_1 := x6.c1
  have qx7_0 := x7.c0
  have qx7_1 := x7.c1
  go_wp2_with fail
  ((with_reducible refine (C4.out.of hG hb).mono ?_); rintro e w5 ⟨rfl, hb5⟩)
  clear qx6_0 qx6_1 qx7_0 qx7_1
  replace x2 := x2.below hb5
  replace x6 := x6.below hb5
  replace x7 := x7.below hb5
  replace hb := bto hb hb5
  clear hb5
  go_wp2_with fail
  ((with_reducible refine (C5.out.of hG hb).mono ?_); rintro e w6 ⟨rfl, hb6⟩)
  replace x2 := x2.below hb6
  replace x6 := x6.below hb6
  replace x7 := x7.below hb6
  replace hb := bto hb hb6
  clear hb6
  go_wp2_with fail
  ((with_reducible refine (C6.out.of hG hb).mono ?_); rintro e w7 ⟨rfl, hb7⟩)
  replace x2 := x2.below hb7
  replace x6 := x6.below hb7
  replace x7 := x7.below hb7
  replace hb := bto hb hb7
  clear hb7
  replace x2 := x2.below (below_alloc w7 (.cells #[.string ⟨H0.toArray⟩, .string ⟨H1.toArray⟩] 32))
  replace x6 := x6.below (below_alloc w7 (.cells #[.string ⟨H0.toArray⟩, .string ⟨H1.toArray⟩] 32))
  replace x7 := x7.below (below_alloc w7 (.cells #[.string ⟨H0.toArray⟩, .string ⟨H1.toArray⟩] 32))
  have x9 := FBox.new w7 (.string ⟨H0.toArray⟩) (.string ⟨H1.toArray⟩) 32
  replace hb := bto hb (below_alloc w7 (.cells #[.string ⟨H0.toArray⟩, .string ⟨H1.toArray⟩] 32))
  have qx6_0 := x6.c0
  have qx6_1 := x6.c1
  have qx9_0 := x9.c0
  have qx9_1 := x9.c1
  go_wp2_with fail
  ((with_reducible refine (C7.out.of hG hb).mono ?_); rintro e w8 ⟨rfl, hb8⟩)
  clear qx6_0 qx6_1 qx9_0 qx9_1
  replace x2 := x2.below hb8
  replace x6 := x6.below hb8
  replace x7 := x7.below hb8
  replace x9 := x9.below hb8
  replace hb := bto hb hb8
  clear hb8
  have qx2_0 := x2.c0
  have qx2_1 := x2.c1
  have qx7_0 := x7.c0
  have qx7_1 := x7.c1
  go_wp2_with fail
  ((with_reducible refine (C8.out.of hG hb).mono ?_); rintro e w9 ⟨rfl, hb9⟩)
  clear qx2_0 qx2_1 qx7_0 qx7_1
  replace x2 := x2.below hb9
  replace x6 := x6.below hb9
  replace x7 := x7.below hb9
  replace x9 := x9.below hb9
  replace hb := bto hb hb9
  clear hb9
  clear x2
  clear x6
  clear x7
  clear x9
  clear e1 hc0
  subst hm
  by_cases g1 : 0 < c
  · have g1' : decide (0 < c) = true := decide_eq_true g1
    have HR := Lib.hid (rnd_up HF.out hr.out (m := 2) (by simp [upB, g1]))
    clear HF hsf hr
    go_wp2
    go_ret
    exact ⟨by rw [HR.out]; first | done | rfl, hb⟩
  have g1' : decide (0 < c) = false := decide_eq_false g1
  by_cases g2 : c = 0
  rotate_left
  · have g2' : (c == 0) = false := by rw [beq_eq_false_iff_ne]; exact g2
    have HR := Lib.hid (rnd_dn HF.out hr.out (m := 2) (by simp [upB, g1, g2]))
    clear HF hsf hr
    go_wp2
    go_ret
    exact ⟨by rw [HR.out]; first | done | rfl, hb⟩
  have g2' : (c == 0) = true := by rw [beq_iff_eq]; exact g2
  by_cases g3 : s < 0
  · have g3' : decide (s < 0) = true := decide_eq_true g3
    have g4 := hsf.out.1 g3
    have HR := Lib.hid (rnd_dn HF.out hr.out (m := 2) (by simp [upB, g1]; first | omega | (intro _; omega)))
    clear HF hsf hr
    go_wp2
    go_ret
    exact ⟨by rw [HR.out]; first | done | rfl, hb⟩
  · have g3' : decide (s < 0) = false := decide_eq_false g3
    have g4 : 0 ≤ fl := Int.not_lt.1 (fun h => g3 (hsf.out.2 h))
    have HR := Lib.hid (rnd_up HF.out hr.out (m := 2) (by simp [upB, g2, g4]))
    clear HF hsf hr
    go_wp2
    go_ret
    exact ⟨by rw [HR.out]; first | done | rfl, hb⟩
set_option maxHeartbeats 4000000 in
set_option maxRecDepth 100000 in
theorem eRoundTo_r3 {l l' : List UInt8} {q : Rat} {k : Nat} (hl : l.length ≤ 200) (hl' : l'.length ≤ 200) (hq : fv l l' = q) (b : Bd k q) (hk : k ≤ 150) (hk1 : 1 ≤ k) (m : Int) (hm : m = 3 ∨ m = 4 ∨ m = 5 ∨ m = 6) (h0 : q.num % q.den ≠ 0) : Ret 129 #[(Value.agg #[Value.string ⟨List.toArray l⟩, Value.string ⟨List.toArray l'⟩]), .int .i64 m] (.string ⟨(canon (rnd q m)).toArray⟩) := fun w hG => by
  have hd0 : (q.den : Int) ≠ 0 := by have := q.den_nz; omega
  have hfl := Nat.lt_of_le_of_lt (fl_abs q) b.1
  have bfl := bd_int hfl hk1
  have bds := bd_sub b bfl
  have lfl := canon_len_le _ _ hfl
  have lN := bd_len bfl
  have lS := bd_len bds
  have lM := bd_len (bd_neg bfl)
  have c1 := sFloor (l := l) (l' := l') (by omega) (by omega) (z := q.floor) (by rw [hq])
  have c2 := sOf (l := canon q.floor) (by omega) (show Rat.divInt (val (canon q.floor)) 1 = (q.floor : Rat) by rw [val_canon]; exact Rat.num_divInt_den ((q.floor : Int) : Rat))
  have c3 := sSub (l := l) (l' := l') (k := fN (q.floor : Rat)) (k' := fD (q.floor : Rat)) (by omega) (by omega) (by omega) (by omega) (by rw [fv_frac]; omega) (by rw [fv_frac]; omega) (q := q - q.floor) (by rw [hq, fv_frac])
  have cZ := sOf (l := []) (by decide) (show Rat.divInt (val []) 1 = 0 by decide +kernel)
  have c4 := sCompare (l := fN (q - q.floor)) (l' := fD (q - q.floor)) (k := fN 0) (k' := fD 0) (by omega) (by omega) (by decide) (by decide) (show cmpQ (fv (fN (q - q.floor)) (fD (q - q.floor))) (fv (fN 0) (fD 0)) = cmpQ (q - q.floor) 0 by rw [fv_frac, fv_frac])
  have c5 := qAdd (l := canon q.floor) (l' := [49]) (by omega) (by decide) (show val (canon q.floor) + val [49] = q.floor + 1 by rw [val_canon]; rfl)
  have c6 := sNew1 (l := [49]) (l' := [50]) (by decide) (by decide) (by decide) (show fv [49] [50] = Rat.divInt 1 2 by decide +kernel)
  have c7 := sCompare (l := fN (q - q.floor)) (l' := fD (q - q.floor)) (k := fN (Rat.divInt 1 2)) (k' := fD (Rat.divInt 1 2)) (by omega) (by omega) (by decide +kernel) (by decide +kernel) (show cmpQ (fv (fN (q - q.floor)) (fD (q - q.floor))) (fv (fN (Rat.divInt 1 2)) (fD (Rat.divInt 1 2))) = halfC q by rw [fv_frac, fv_frac, half_cmp])
  have c8 := sCompare (l := l) (l' := l') (k := fN 0) (k' := fD 0) (by omega) (by omega) (by decide) (by decide) (show cmpQ (fv l l') (fv (fN 0) (fD 0)) = cmpZ q.num 0 by rw [hq, fv_frac, sgn_cmp])
  have cE := eEven (l := canon q.floor) (by omega) (val_canon q.floor)
  have hf := rndF q
  have hsf0 := sgn_fl q
  have hrc := rest_cmp q
  have x2 := FBox.new w (.string ⟨l.toArray⟩) (.string ⟨l'.toArray⟩) 32
  have hb := below_alloc w (.cells #[.string ⟨l.toArray⟩, .string ⟨l'.toArray⟩] 32)
  clear hd0 hfl bfl bds lfl lN lS lM hl hl' b hk hk1 hq
  generalize cmpQ (q - q.floor) 0 = c0 at *
  generalize fN (q - q.floor) = R0 at *
  generalize fD (q - q.floor) = R1 at *
  generalize fN (q.floor : Rat) = F0 at *
  generalize fD (q.floor : Rat) = F1 at *
  generalize q.floor = fl at *
  generalize q.num % q.den = r at *
  generalize halfC q = c at *
  generalize cmpZ q.num 0 = s at *
  generalize fN (Rat.divInt 1 2) = H0 at *
  generalize fD (Rat.divInt 1 2) = H1 at *
  generalize fN (0 : Rat) = Z0 at *
  generalize fD (0 : Rat) = Z1 at *
  have C1 := Lib.hid c1
  have C2 := Lib.hid c2
  have C3 := Lib.hid c3
  have CZ := Lib.hid cZ
  have C4 := Lib.hid c4
  have C5 := Lib.hid c5
  have C6 := Lib.hid c6
  have C7 := Lib.hid c7
  have C8 := Lib.hid c8
  have HE := Lib.hid cE
  have HF := Lib.hid hf
  have hsf := Lib.hid hsf0
  have HR0 := Lib.hid hrc
  clear c1 c2 c3 cZ c4 c5 c6 c7 c8 cE hf hsf0 hrc
  have hc0 : ¬ c0 = 0 := fun h => h0 (HR0.out.1 h)
  have e1 := intbne hc0
  have hr := Lib.hid h0
  clear HR0 h0
  go_enter Tryz.func129, Tryz.ntmps129
  have qx2_0 := x2.c0
  have qx2_1 := x2.c1
  go_wp2_with fail
  ((with_reducible refine (C1.out.of hG hb).mono ?_); rintro e w2 ⟨rfl, hb2⟩)
  clear qx2_0 qx2_1
  replace x2 := x2.below hb2
  replace hb := bto hb hb2
  clear hb2
  go_wp2_with fail
  refine wp_region_kept (by kernel_rfl) (by kernel_rfl) ?_
  refine kept_val _ (fun _ => rfl) (fun ρ w hw => by have q0 := (x2.below hw).c0; have q1 := (x2.below hw).c1; go_simp; first | done | with_reducible rfl) ?_
  simp only [Act.put, List.setIfInBounds_toArray, List.set_cons_zero, List.set_cons_succ, Nat.reduceAdd]
  refine kept_val _ (fun _ => rfl) (fun ρ w hw => by go_simp; first | done | with_reducible rfl) ?_
  simp only [Act.put, List.setIfInBounds_toArray, List.set_cons_zero, List.set_cons_succ, Nat.reduceAdd]
  refine kept_call _ _ _ (fun _ => rfl) (fun ρ w hw => by go_simp; first | done | with_reducible rfl) (fun w hw => C2.out.of hG (bto hb hw)) ?_
  simp only [Act.put, List.setIfInBounds_toArray, List.set_cons_zero, List.set_cons_succ, Nat.reduceAdd]
  refine kept_call _ _ _ (fun _ => rfl) (fun ρ w hw => by go_simp; first | done | with_reducible rfl) (fun w hw => C3.out.of hG (bto hb hw)) ?_
  simp only [Act.put, List.setIfInBounds_toArray, List.set_cons_zero, List.set_cons_succ, Nat.reduceAdd]
  refine kept_box (fun b => .pointer (some ⟨b, 0, none⟩)) _ rfl (fun _ => rfl) (fun ρ w hw => by go_simp; first | done | with_reducible rfl) ?_
  simp only [Act.put, List.setIfInBounds_toArray, List.set_cons_zero, List.set_cons_succ, Nat.reduceAdd]
  refine kept_put2 4 _ 6 _ _ _ _ _ rfl rfl rfl (by decide) (fun _ => rfl) (fun ρ w hw q0 q1 q2 q3 => by go_simp; first | done | with_reducible rfl) ?_
  simp only [Act.put, Nat.reduceAdd]
  refine kept_end (fun ρ w3 hF => ?_)
  replace x2 := x2.below hF.below
  replace hb := bto hb hF.below
  have x6 := FBox.ofB (hF.box 4 _ _ rfl).2
  generalize ρ 4 = b6 at *
  clear hF
  go_wp2_with fail
  ((with_reducible refine (CZ.out.of hG hb).mono ?_); rintro e w4 ⟨rfl, hb4⟩)
  replace x2 := x2.below hb4
  replace x6 := x6.below hb4
  replace hb := bto hb hb4
  clear hb4
  replace x2 := x2.below (below_alloc w4 (.cells #[.string ⟨Z0.toArray⟩, .string ⟨Z1.toArray⟩] 32))
  replace x6 := x6.below (below_alloc w4 (.cells #[.string ⟨Z0.toArray⟩, .string ⟨Z1.toArray⟩] 32))
  have x7 := FBox.new w4 (.string ⟨Z0.toArray⟩) (.string ⟨Z1.toArray⟩) 32
  replace hb := bto hb (below_alloc w4 (.cells #[.string ⟨Z0.toArray⟩, .string ⟨Z1.toArray⟩] 32))
  have qx6_0 := x6.c0
  have qx6_1 := x6.c1
  have qx7_0 := x7.c0
  have qx7_1 := x7.c1
  go_wp2_with fail
  ((with_reducible refine (C4.out.of hG hb).mono ?_); rintro e w5 ⟨rfl, hb5⟩)
  clear qx6_0 qx6_1 qx7_0 qx7_1
  replace x2 := x2.below hb5
  replace x6 := x6.below hb5
  replace x7 := x7.below hb5
  replace hb := bto hb hb5
  clear hb5
  go_wp2_with fail
  ((with_reducible refine (C5.out.of hG hb).mono ?_); rintro e w6 ⟨rfl, hb6⟩)
  replace x2 := x2.below hb6
  replace x6 := x6.below hb6
  replace x7 := x7.below hb6
  replace hb := bto hb hb6
  clear hb6
  go_wp2_with fail
  ((with_reducible refine (C6.out.of hG hb).mono ?_); rintro e w7 ⟨rfl, hb7⟩)
  replace x2 := x2.below hb7
  replace x6 := x6.below hb7
  replace x7 := x7.below hb7
  replace hb := bto hb hb7
  clear hb7
  replace x2 := x2.below (below_alloc w7 (.cells #[.string ⟨H0.toArray⟩, .string ⟨H1.toArray⟩] 32))
  replace x6 := x6.below (below_alloc w7 (.cells #[.string ⟨H0.toArray⟩, .string ⟨H1.toArray⟩] 32))
  replace x7 := x7.below (below_alloc w7 (.cells #[.string ⟨H0.toArray⟩, .string ⟨H1.toArray⟩] 32))
  have x9 := FBox.new w7 (.string ⟨H0.toArray⟩) (.string ⟨H1.toArray⟩) 32
  replace hb := bto hb (below_alloc w7 (.cells #[.string ⟨H0.toArray⟩, .string ⟨H1.toArray⟩] 32))
  have qx6_0 := x6.c0
  have qx6_1 := x6.c1
  have qx9_0 := x9.c0
  have qx9_1 := x9.c1
  go_wp2_with fail
  ((with_reducible refine (C7.out.of hG hb).mono ?_); rintro e w8 ⟨rfl, hb8⟩)
  clear qx6_0 qx6_1 qx9_0 qx9_1
  replace x2 := x2.below hb8
  replace x6 := x6.below hb8
  replace x7 := x7.below hb8
  replace x9 := x9.below hb8
  replace hb := bto hb hb8
  clear hb8
  have qx2_0 := x2.c0
  have qx2_1 := x2.c1
  have qx7_0 := x7.c0
  have qx7_1 := x7.c1
  go_wp2_with fail
  ((with_reducible refine (C8.out.of hG hb).mono ?_); rintro e w9 ⟨rfl, hb9⟩)
  clear qx2_0 qx2_1 qx7_0 qx7_1
  replace x2 := x2.below hb9
  replace x6 := x6.below hb9
  replace x7 := x7.below hb9
  replace x9 := x9.below hb9
  replace hb := bto hb hb9
  clear hb9
  clear x2
  clear x6
  clear x7
  clear x9
  clear e1 hc0
  rcases hm with rfl | rfl | rfl | rfl
  · by_cases g3 : s < 0
    · have g3' : decide (s < 0) = true := decide_eq_true g3
      have g4 := hsf.out.1 g3
      have HR := Lib.hid (rnd_up HF.out hr.out (m := 3) (by simp [upB, g4]))
      clear HF hsf hr
      go_wp2
      go_ret
      exact ⟨by rw [HR.out]; first | done | rfl, hb⟩
    · have g3' : decide (s < 0) = false := decide_eq_false g3
      have g4 : 0 ≤ fl := Int.not_lt.1 (fun h => g3 (hsf.out.2 h))
      have HR := Lib.hid (rnd_dn HF.out hr.out (m := 3) (by simp [upB]; omega))
      clear HF hsf hr
      go_wp2
      go_ret
      exact ⟨by rw [HR.out]; first | done | rfl, hb⟩
  · by_cases g3 : s < 0
    · have g3' : decide (s < 0) = true := decide_eq_true g3
      have g4 := hsf.out.1 g3
      have HR := Lib.hid (rnd_dn HF.out hr.out (m := 4) (by simp [upB]; omega))
      clear HF hsf hr
      go_wp2
      go_ret
      exact ⟨by rw [HR.out]; first | done | rfl, hb⟩
    · have g3' : decide (s < 0) = false := decide_eq_false g3
      have g4 : 0 ≤ fl := Int.not_lt.1 (fun h => g3 (hsf.out.2 h))
      have HR := Lib.hid (rnd_up HF.out hr.out (m := 4) (by simp [upB, g4]))
      clear HF hsf hr
      go_wp2
      go_ret
      exact ⟨by rw [HR.out]; first | done | rfl, hb⟩
  · have HR := Lib.hid (rnd_dn HF.out hr.out (m := 5) (by simp [upB]))
    clear HF hsf hr
    go_wp2
    go_ret
    exact ⟨by rw [HR.out]; first | done | rfl, hb⟩
  · have HR := Lib.hid (rnd_up HF.out hr.out (m := 6) (by simp [upB]))
    clear HF hsf hr
    go_wp2
    go_ret
    exact ⟨by rw [HR.out]; first | done | rfl, hb⟩
theorem eRoundTo {l l' : List UInt8} {q : Rat} {k : Nat} (hl : l.length ≤ 200) (hl' : l'.length ≤ 200) (hq : fv l l' = q) (b : Bd k q) (hk : k ≤ 150) (hk1 : 1 ≤ k) {m : Int} (h1 : 1 ≤ m) (h6 : m ≤ 6) {z : Int} (e : rnd q m = z) : Ret 129 #[(Value.agg #[Value.string ⟨List.toArray l⟩, Value.string ⟨List.toArray l'⟩]), .int .i64 m] (.string ⟨(canon z).toArray⟩) := by
  subst e
  have hm : m = 1 ∨ m = 2 ∨ (m = 3 ∨ m = 4 ∨ m = 5 ∨ m = 6) := by omega
  by_cases h0 : q.num % q.den = 0
  · exact eRoundTo_w hl hl' hq b hk hk1 m h0
  · rcases hm with hm | hm | hm
    · exact eRoundTo_r1 hl hl' hq b hk hk1 m hm h0
    · exact eRoundTo_r2 hl hl' hq b hk hk1 m hm h0
    · exact eRoundTo_r3 hl hl' hq b hk hk1 m hm h0
set_option maxHeartbeats 1000000 in
set_option maxRecDepth 100000 in
theorem eRound {l l' : List UInt8} {q : Rat} {k : Nat} (hl : l.length ≤ 200) (hl' : l'.length ≤ 200) (hq : fv l l' = q) (b : Bd k q) (hk : k ≤ 150) (hk1 : 1 ≤ k) {m : Int} (h1 : 1 ≤ m) (h6 : m ≤ 6) {z : Int} (e : rnd q m = z) : Ret 55 #[(Value.agg #[Value.string ⟨List.toArray l⟩, Value.string ⟨List.toArray l'⟩]), .int .i64 m] (.tuple #[.string ⟨(canon z).toArray⟩, .int .i64 0]) := fun w hG => by
  have C1 := Lib.hid (eMode h1 h6)
  have C2 := Lib.hid (eRoundTo hl hl' hq b hk hk1 h1 h6 e)
  have x2 := FBox.new w (.string ⟨l.toArray⟩) (.string ⟨l'.toArray⟩) 32
  have hb := below_alloc w (.cells #[.string ⟨l.toArray⟩, .string ⟨l'.toArray⟩] 32)
  clear hl hl' hq b hk hk1 h1 h6 e
  go_enter Tryz.func55, Tryz.ntmps55
  go_wp2_with fail
  ((with_reducible refine (C1.out.of hG hb).mono ?_); rintro e w2 ⟨rfl, hb2⟩)
  replace x2 := x2.below hb2
  replace hb := bto hb hb2
  clear hb2
  have qx2_0 := x2.c0
  have qx2_1 := x2.c1
  go_wp2_with fail
  ((with_reducible refine (C2.out.of hG hb).mono ?_); rintro e w3 ⟨rfl, hb3⟩)
  clear qx2_0 qx2_1
  replace x2 := x2.below hb3
  replace hb := bto hb hb3
  clear hb3
  go_wp2
  go_ret2
  exact ⟨rfl, hb⟩
set_option maxHeartbeats 1000000 in
set_option maxRecDepth 100000 in
theorem eRoundBad {l l' : List UInt8} {m : Int} (hm : m < 1 ∨ 6 < m) : Ret 55 #[(Value.agg #[Value.string ⟨List.toArray l⟩, Value.string ⟨List.toArray l'⟩]), .int .i64 m] (.tuple #[.string ⟨#[]⟩, .int .i64 7]) := fun w hG => by
  have C1 := Lib.hid (eModeBad hm)
  have hb := below_alloc w (.cells #[.string ⟨l.toArray⟩, .string ⟨l'.toArray⟩] 32)
  clear hm
  go_enter Tryz.func55, Tryz.ntmps55
  go_wp2_with fail
  ((with_reducible refine (C1.out.of hG hb).mono ?_); rintro e w2 ⟨rfl, hb2⟩)
  go_wp2
  go_ret2
  exact ⟨rfl, bto hb hb2⟩
set_option maxHeartbeats 1000000 in
set_option maxRecDepth 100000 in
theorem ePower {p : Nat} (hp : p ≤ 1000) : Ret 106 #[.int .i64 (p : Int)] (.string ⟨(49 :: List.replicate p (48 : UInt8)).toArray⟩) := fun w hG => by
  have HV : Hid (∀ T : List UInt8, T = 49 :: List.replicate p 48 → Ending.returned (.string ⟨T.toArray⟩) = Ending.returned (.string ⟨(49 :: List.replicate p (48 : UInt8)).toArray⟩)) := by rintro T rfl; rfl
  generalize Ending.returned (.string ⟨(49 :: List.replicate p (48 : UInt8)).toArray⟩) = V at *
  go_enter Tryz.func106, Tryz.ntmps106
  go_wp2_with fail
  go_loop [3, 4] (fun sv iv => ∃ (k : Nat) (T : List UInt8), k ≤ p ∧ iv = .int .i64 (k : Int) ∧ sv = .string ⟨T.toArray⟩ ∧ Hid (T = 49 :: List.replicate k 48) ∧ T.length ≤ k + 1) (fun _ iv => p - (intOf iv).toNat)
  case atStart => exact ⟨0, [49], Nat.zero_le _, rfl, rfl, rfl, by simp⟩
  case round =>
    obtain ⟨k, T, hk, rfl, rfl, HT, htl⟩ := hrel
    by_cases hlt : k < p
    · have ha := str_add T [48] (by omega) (by decide)
      have HT2 : Hid (T ++ [48] = 49 :: List.replicate (k + 1) 48) := by show _ = _; rw [HT.out, List.replicate_succ']; rfl
      have htl2 : (T ++ [48]).length ≤ k + 1 + 1 := by simp; omega
      generalize T ++ [48] = T' at *
      go_wp2
      go_round
      case rel => exact ⟨k + 1, T', by omega, by go_num, rfl, HT2, htl2⟩
      case measure => simp [intOf]; omega
    · obtain rfl : k = p := by omega
      go_wp2
      go_ret
      exact ⟨HV.out T HT.out, Below.refl _ _⟩
set_option maxHeartbeats 2000000 in
set_option maxRecDepth 100000 in
theorem eScale {l l' : List UInt8} {q : Rat} (hl : l.length ≤ 100) (hl' : l'.length ≤ 100) (hq : fv l l' = q) (b : Bd 100 q) {p : Nat} (hp : p ≤ 12) {m : Int} (h1 : 1 ≤ m) (h6 : m ≤ 6) {z : Int} (e : rnd (q * tenQ p) m = z) : Ret 57 #[(Value.agg #[Value.string ⟨List.toArray l⟩, Value.string ⟨List.toArray l'⟩]), .int .i64 (p : Int), .int .i64 m] (.tuple #[.string ⟨(canon z).toArray⟩, .int .i64 0]) := fun w hG => by
  have C1 := Lib.hid (ePlaces (n := (p : Int)) (by omega) (by omega))
  have C2 := Lib.hid (eMode h1 h6)
  have C3 := Lib.hid (ePower (p := p) (by omega))
  have bt := bd_ten p
  have lt := bd_len bt
  have bs := bd_mul b bt
  have ls := bd_len bs
  have c4 := sOf (l := 49 :: List.replicate p 48) (by simp; omega) (show Rat.divInt (val (49 :: List.replicate p 48)) 1 = tenQ p by rw [val_one0]; exact Rat.num_divInt_den (tenQ p))
  have c5 := sMul (l := l) (l' := l') (k := fN (tenQ p)) (k' := fD (tenQ p)) (by omega) (by omega) (by omega) (by omega) (show fv l l' * fv (fN (tenQ p)) (fD (tenQ p)) = q * tenQ p by rw [hq, fv_frac])
  have c6 := eRoundTo (l := fN (q * tenQ p)) (l' := fD (q * tenQ p)) (by omega) (by omega) (fv_frac _) bs (by omega) (by omega) h1 h6 e
  have C4 := Lib.hid c4
  have C5 := Lib.hid c5
  have C6 := Lib.hid c6
  have x3 := FBox.new w (.string ⟨l.toArray⟩) (.string ⟨l'.toArray⟩) 32
  have hb := below_alloc w (.cells #[.string ⟨l.toArray⟩, .string ⟨l'.toArray⟩] 32)
  clear c4 c5 c6 bt lt bs ls hl hl' hq b hp h1 h6 e
  generalize fN (q * tenQ p) = M0 at *
  generalize fD (q * tenQ p) = M1 at *
  generalize fN (tenQ p) = T0 at *
  generalize fD (tenQ p) = T1 at *
  generalize (49 :: List.replicate p (48 : UInt8)) = TP at *
  go_enter Tryz.func57, Tryz.ntmps57
  go_wp2_with fail
  ((with_reducible refine (C1.out.of hG hb).mono ?_); rintro e w2 ⟨rfl, hb2⟩)
  replace x3 := x3.below hb2
  replace hb := bto hb hb2
  clear hb2
  go_wp2_with fail
  ((with_reducible refine (C2.out.of hG hb).mono ?_); rintro e w3 ⟨rfl, hb3⟩)
  replace x3 := x3.below hb3
  replace hb := bto hb hb3
  clear hb3
  go_wp2_with fail
  refine wp_region_kept (by kernel_rfl) (by kernel_rfl) ?_
  refine kept_val _ (fun _ => rfl) (fun ρ w hw => by have q0 := (x3.below hw).c0; have q1 := (x3.below hw).c1; go_simp; first | done | with_reducible rfl) ?_
  simp only [Act.put, List.setIfInBounds_toArray, List.set_cons_zero, List.set_cons_succ, Nat.reduceAdd]
  refine kept_val _ (fun _ => rfl) (fun ρ w hw => by go_simp; first | done | with_reducible rfl) ?_
  simp only [Act.put, List.setIfInBounds_toArray, List.set_cons_zero, List.set_cons_succ, Nat.reduceAdd]
  refine kept_call _ _ _ (fun _ => rfl) (fun ρ w hw => by go_simp; first | done | with_reducible rfl) (fun w hw => C3.out.of hG (bto hb hw)) ?_
  simp only [Act.put, List.setIfInBounds_toArray, List.set_cons_zero, List.set_cons_succ, Nat.reduceAdd]
  refine kept_call _ _ _ (fun _ => rfl) (fun ρ w hw => by go_simp; first | done | with_reducible rfl) (fun w hw => C4.out.of hG (bto hb hw)) ?_
  simp only [Act.put, List.setIfInBounds_toArray, List.set_cons_zero, List.set_cons_succ, Nat.reduceAdd]
  refine kept_call _ _ _ (fun _ => rfl) (fun ρ w hw => by go_simp; first | done | with_reducible rfl) (fun w hw => C5.out.of hG (bto hb hw)) ?_
  simp only [Act.put, List.setIfInBounds_toArray, List.set_cons_zero, List.set_cons_succ, Nat.reduceAdd]
  refine kept_val _ (fun _ => rfl) (fun ρ w hw => by go_simp; first | done | with_reducible rfl) ?_
  simp only [Act.put, List.setIfInBounds_toArray, List.set_cons_zero, List.set_cons_succ, Nat.reduceAdd]
  refine kept_call _ _ _ (fun _ => rfl) (fun ρ w hw => by go_simp; first | done | with_reducible rfl) (fun w hw => C6.out.of hG (bto hb hw)) ?_
  simp only [Act.put, List.setIfInBounds_toArray, List.set_cons_zero, List.set_cons_succ, Nat.reduceAdd]
  refine kept_val _ (fun _ => rfl) (fun ρ w hw => by go_simp; first | done | with_reducible rfl) ?_
  simp only [Act.put, List.setIfInBounds_toArray, List.set_cons_zero, List.set_cons_succ, Nat.reduceAdd]
  refine kept_val _ (fun _ => rfl) (fun ρ w hw => by go_simp; first | done | with_reducible rfl) ?_
  simp only [Act.put, List.setIfInBounds_toArray, List.set_cons_zero, List.set_cons_succ, Nat.reduceAdd]
  refine kept_end (fun ρ w4 hF => ?_)
  replace x3 := x3.below hF.below
  replace hb := bto hb hF.below
  clear hF
  go_wp2
  go_ret2
  exact ⟨rfl, hb⟩
set_option maxHeartbeats 1000000 in
set_option maxRecDepth 100000 in
theorem eScaleBad {l l' : List UInt8} {p : Nat} (hp : p ≤ 12) {m : Int} (hm : m < 1 ∨ 6 < m) : Ret 57 #[(Value.agg #[Value.string ⟨List.toArray l⟩, Value.string ⟨List.toArray l'⟩]), .int .i64 (p : Int), .int .i64 m] (.tuple #[.string ⟨#[]⟩, .int .i64 7]) := fun w hG => by
  have C1 := Lib.hid (ePlaces (n := (p : Int)) (by omega) (by omega))
  have C2 := Lib.hid (eModeBad hm)
  have hb := below_alloc w (.cells #[.string ⟨l.toArray⟩, .string ⟨l'.toArray⟩] 32)
  clear hm hp
  go_enter Tryz.func57, Tryz.ntmps57
  go_wp2_with fail
  ((with_reducible refine (C1.out.of hG hb).mono ?_); rintro e w1 ⟨rfl, hb1⟩)
  replace hb := bto hb hb1
  go_wp2_with fail
  ((with_reducible refine (C2.out.of hG hb).mono ?_); rintro e w2 ⟨rfl, hb2⟩)
  go_wp2
  go_ret2
  exact ⟨rfl, bto hb hb2⟩
set_option maxHeartbeats 1000000 in
set_option maxRecDepth 100000 in
theorem eScaleOut {l l' : List UInt8} {n : Int} (hn : n < 0 ∨ 12 < n) (m : Int) : Ret 57 #[(Value.agg #[Value.string ⟨List.toArray l⟩, Value.string ⟨List.toArray l'⟩]), .int .i64 n, .int .i64 m] (.tuple #[.string ⟨#[]⟩, .int .i64 2]) := fun w hG => by
  have C1 := Lib.hid (ePlacesBad hn)
  have hb := below_alloc w (.cells #[.string ⟨l.toArray⟩, .string ⟨l'.toArray⟩] 32)
  clear hn
  go_enter Tryz.func57, Tryz.ntmps57
  go_wp2_with fail
  ((with_reducible refine (C1.out.of hG hb).mono ?_); rintro e w1 ⟨rfl, hb1⟩)
  replace hb := bto hb hb1
  go_wp2
  go_ret2
  exact ⟨rfl, hb⟩
end Go.Proofs.YtmmhimgkpfcokaaGreatDoor
