/- trancheref03: Parse, divided, Finite. -/
import Derived.Test.YtmmhimgkpfcokaaGreatDoorEc
namespace Go.Proofs.YtmmhimgkpfcokaaGreatDoor
open Go.RowKit Num
set_option maxHeartbeats 2000000 in
set_option maxRecDepth 100000 in
theorem eParse {s : List UInt8} (hs : s.length ≤ 60) {p : Nat} (hp : p ≤ 12) : Ret 37 #[.string ⟨s.toArray⟩, .int .i64 (p : Int)] (ParseV s p) := fun w hG => by
  have C1 := Lib.hid (ePlaces (n := (p : Int)) (by omega) (by omega))
  have c2 := eFrac (s := s) (by omega)
  have hb := Below.refl w.heap.size w
  cases hok : decOk s
  · rw [fracV_f hok] at c2
    have HV := Lib.hid (parseV_f (p := p) hok)
    have C2 := Lib.hid c2
    clear c2 hok hs hp
    go_enter Tryz.func37, Tryz.ntmps37
    go_wp2_with fail
    ((with_reducible refine (C1.out.of hG hb).mono ?_); rintro e w1 ⟨rfl, hb1⟩)
    replace hb := bto hb hb1
    go_wp2_with fail
    ((with_reducible refine (C2.out.of hG hb).mono ?_); rintro e w2 ⟨rfl, hb2⟩)
    replace hb := bto hb hb2
    go_wp2
    go_ret2
    exact ⟨by rw [HV.out]; first | done | rfl, bto hb (below_alloc _ _)⟩
  · rw [fracV_t hok] at c2
    have bq := decQ_bd (s := s) (K := 121) (by omega) (decOk_dig hok)
    have hV1 := parseV_1 (p := p) hok
    have hV0 := parseV_0 (p := p) hok
    have bt := bd_ten p
    have lq := bd_len bq
    have lt := bd_len bt
    have bs := bd_mul bq bt
    have ls := bd_len bs
    have cP := ePower (p := p) (by omega)
    have c4 := sOf (l := 49 :: List.replicate p 48) (by simp; omega) (show Rat.divInt (val (49 :: List.replicate p 48)) 1 = tenQ p by rw [val_one0]; exact Rat.num_divInt_den (tenQ p))
    have c5 := sMul (l := fN (decQ s)) (l' := fD (decQ s)) (k := fN (tenQ p)) (k' := fD (tenQ p)) (by omega) (by omega) (by omega) (by omega) (show fv (fN (decQ s)) (fD (decQ s)) * fv (fN (tenQ p)) (fD (tenQ p)) = decQ s * tenQ p by rw [fv_frac, fv_frac])
    have c6 := sParts (l := fN (decQ s * tenQ p)) (l' := fD (decQ s * tenQ p)) (by omega) (by omega) (by omega) (by omega) (fv_frac (decQ s * tenQ p))
    have hde : ((decQ s * tenQ p).den : Int).natAbs < 10 ^ (121 + (p + 1)) := by rw [Int.natAbs_natCast]; exact bs.2
    have c7 := qCompare (l := canon ((decQ s * tenQ p).den : Int)) (l' := [49]) (canon_len_of hde (by omega)) (by decide) (show cmpZ (val (canon ((decQ s * tenQ p).den : Int))) (val [49]) = cmpZ ((decQ s * tenQ p).den : Int) 1 by rw [val_canon]; rfl)
    have hone := cmp_one (decQ s * tenQ p).den
    have HN : Hid (fN (decQ s * tenQ p) = canon (decQ s * tenQ p).num) := rfl
    rw [← HN.out] at hV1
    clear HN hde bs bq hok hs bt lq lt ls hp
    generalize canon ((decQ s * tenQ p).den : Int) = E at *
    generalize cmpZ ((decQ s * tenQ p).den : Int) 1 = c at *
    generalize (decQ s * tenQ p).den = d at *
    generalize fN (decQ s * tenQ p) = M at *
    generalize fD (decQ s * tenQ p) = M' at *
    generalize fN (decQ s) = N at *
    generalize fD (decQ s) = D at *
    generalize fN (tenQ p) = T0 at *
    generalize fD (tenQ p) = T1 at *
    generalize ParseV s p = V at *
    generalize (49 :: List.replicate p (48 : UInt8)) = TP at *
    have C2 := Lib.hid c2
    have CP := Lib.hid cP
    have C4 := Lib.hid c4
    have C5 := Lib.hid c5
    have C6 := Lib.hid c6
    have C7 := Lib.hid c7
    have HV1 := Lib.hid hV1
    have HV0 := Lib.hid hV0
    have HO := Lib.hid hone
    clear c2 cP c4 c5 c6 c7 hV1 hV0 hone
    go_enter Tryz.func37, Tryz.ntmps37
    go_wp2_with fail
    ((with_reducible refine (C1.out.of hG hb).mono ?_); rintro e w2 ⟨rfl, hb2⟩)
    replace hb := bto hb hb2
    clear hb2
    go_wp2_with fail
    ((with_reducible refine (C2.out.of hG hb).mono ?_); rintro e w3 ⟨rfl, hb3⟩)
    replace hb := bto hb hb3
    clear hb3
    have x6 := FBox.new w3 (.string ⟨N.toArray⟩) (.string ⟨D.toArray⟩) 32
    replace hb := bto hb (below_alloc w3 (.cells #[.string ⟨N.toArray⟩, .string ⟨D.toArray⟩] 32))
    go_wp2_with fail
    refine wp_region_kept (by kernel_rfl) (by kernel_rfl) ?_
    refine kept_val _ (fun _ => rfl) (fun ρ w hw => by have q0 := (x6.below hw).c0; have q1 := (x6.below hw).c1; go_simp; first | done | with_reducible rfl) ?_
    simp only [Act.put, List.setIfInBounds_toArray, List.set_cons_zero, List.set_cons_succ, Nat.reduceAdd]
    refine kept_val _ (fun _ => rfl) (fun ρ w hw => by go_simp; first | done | with_reducible rfl) ?_
    simp only [Act.put, List.setIfInBounds_toArray, List.set_cons_zero, List.set_cons_succ, Nat.reduceAdd]
    refine kept_call _ _ _ (fun _ => rfl) (fun ρ w hw => by go_simp; first | done | with_reducible rfl) (fun w hw => CP.out.of hG (bto hb hw)) ?_
    simp only [Act.put, List.setIfInBounds_toArray, List.set_cons_zero, List.set_cons_succ, Nat.reduceAdd]
    refine kept_call _ _ _ (fun _ => rfl) (fun ρ w hw => by go_simp; first | done | with_reducible rfl) (fun w hw => C4.out.of hG (bto hb hw)) ?_
    simp only [Act.put, List.setIfInBounds_toArray, List.set_cons_zero, List.set_cons_succ, Nat.reduceAdd]
    refine kept_call _ _ _ (fun _ => rfl) (fun ρ w hw => by go_simp; first | done | with_reducible rfl) (fun w hw => C5.out.of hG (bto hb hw)) ?_
    simp only [Act.put, List.setIfInBounds_toArray, List.set_cons_zero, List.set_cons_succ, Nat.reduceAdd]
    refine kept_call _ _ _ (fun _ => rfl) (fun ρ w hw => by go_simp; first | done | with_reducible rfl) (fun w hw => C6.out.of hG (bto hb hw)) ?_
    simp only [Act.put, List.setIfInBounds_toArray, List.set_cons_zero, List.set_cons_succ, Nat.reduceAdd]
    refine kept_val _ (fun _ => rfl) (fun ρ w hw => by go_simp; first | done | with_reducible rfl) ?_
    simp only [Act.put, List.setIfInBounds_toArray, List.set_cons_zero, List.set_cons_succ, Nat.reduceAdd]
    refine kept_val _ (fun _ => rfl) (fun ρ w hw => by go_simp; first | done | with_reducible rfl) ?_
    simp only [Act.put, List.setIfInBounds_toArray, List.set_cons_zero, List.set_cons_succ, Nat.reduceAdd]
    refine kept_val _ (fun _ => rfl) (fun ρ w hw => by go_simp; first | done | with_reducible rfl) ?_
    simp only [Act.put, List.setIfInBounds_toArray, List.set_cons_zero, List.set_cons_succ, Nat.reduceAdd]
    refine kept_val _ (fun _ => rfl) (fun ρ w hw => by go_simp; first | done | with_reducible rfl) ?_
    simp only [Act.put, List.setIfInBounds_toArray, List.set_cons_zero, List.set_cons_succ, Nat.reduceAdd]
    refine kept_val _ (fun _ => rfl) (fun ρ w hw => by go_simp; first | done | with_reducible rfl) ?_
    simp only [Act.put, List.setIfInBounds_toArray, List.set_cons_zero, List.set_cons_succ, Nat.reduceAdd]
    refine kept_end (fun ρ w4 hF => ?_)
    replace x6 := x6.below hF.below
    replace hb := bto hb hF.below
    clear hF
    clear x6
    go_wp2_with fail
    ((with_reducible refine (C7.out.of hG hb).mono ?_); rintro e w5 ⟨rfl, hb5⟩)
    replace hb := bto hb hb5
    clear hb5
    by_cases h1 : c = 0
    · have e1 := intbeq h1
      have e2 := bneq e1
      have HV := Lib.hid (HV1.out (HO.out.1 h1))
      clear h1
      go_wp2
      go_ret2
      exact ⟨by rw [HV.out]; first | done | rfl, hb⟩
    · have e1 := intbne h1
      have e2 := bneq' e1
      have HV := Lib.hid (HV0.out (fun h => h1 (HO.out.2 h)))
      clear h1
      go_wp2
      go_ret2
      exact ⟨by rw [HV.out]; first | done | rfl, hb⟩
set_option maxHeartbeats 1000000 in
set_option maxRecDepth 100000 in
theorem eParseLong {s : List UInt8} (hs : 65536 < s.length) (hs2 : s.length ≤ 9223372036854775807) {p : Nat} (hp : p ≤ 12) : Ret 37 #[.string ⟨s.toArray⟩, .int .i64 (p : Int)] (.tuple #[.string ⟨#[]⟩, .int .i64 4]) := fun w hG => by
  have C1 := Lib.hid (ePlaces (n := (p : Int)) (by omega) (by omega))
  have C2 := Lib.hid (eFracLong hs hs2)
  have hb := Below.refl w.heap.size w
  clear hs hs2 hp
  go_enter Tryz.func37, Tryz.ntmps37
  go_wp2_with fail
  ((with_reducible refine (C1.out.of hG hb).mono ?_); rintro e w1 ⟨rfl, hb1⟩)
  replace hb := bto hb hb1
  go_wp2_with fail
  ((with_reducible refine (C2.out.of hG hb).mono ?_); rintro e w2 ⟨rfl, hb2⟩)
  replace hb := bto hb hb2
  go_wp2
  go_ret2
  exact ⟨rfl, bto hb (below_alloc _ _)⟩
set_option maxHeartbeats 1000000 in
set_option maxRecDepth 100000 in
theorem eParseOut {s : List UInt8} {n : Int} (hn : n < 0 ∨ 12 < n) : Ret 37 #[.string ⟨s.toArray⟩, .int .i64 n] (.tuple #[.string ⟨#[]⟩, .int .i64 2]) := fun w hG => by
  have C1 := Lib.hid (ePlacesBad hn)
  have hb := Below.refl w.heap.size w
  clear hn
  go_enter Tryz.func37, Tryz.ntmps37
  go_wp2_with fail
  ((with_reducible refine (C1.out.of hG hb).mono ?_); rintro e w1 ⟨rfl, hb1⟩)
  replace hb := bto hb hb1
  go_wp2
  go_ret2
  exact ⟨rfl, hb⟩
theorem cmp_dec (r : Nat) : cmpZ (val (dec r)) (val []) = if r = 0 then 0 else 1 := by
  rw [← canon_ofNat, val_canon]
  show cmpZ (r : Int) 0 = _
  unfold cmpZ
  rw [if_neg (by omega)]
  split <;> split <;> omega
theorem qDivD {x y : Nat} {lx ly : List UInt8} (ex : lx = dec x) (ey : ly = dec y) (hx : lx.length ≤ 4000) (hy : ly.length ≤ 4000) (h0 : y ≠ 0) : Ret 189 #[.string ⟨lx.toArray⟩, .string ⟨ly.toArray⟩] (.tuple #[.string ⟨(dec (x / y)).toArray⟩, .string ⟨(dec (x % y)).toArray⟩, .int .i64 0]) := by
  subst ex; subst ey; exact qDivN hx hy h0
set_option maxHeartbeats 2000000 in
set_option maxRecDepth 100000 in
theorem eDiv2 {a : Nat} (ha : 0 < a) {k : Nat} (hk : a < 2 ^ k) (hk2 : k ≤ 1000000) {A : List UInt8} (hA : A = dec a) (hA2 : A.length ≤ 4000) : Ret 132 #[.string ⟨A.toArray⟩, .string ⟨#[50]⟩] (.tuple #[.int .i64 ((mlt 2 a a).1 : Int), .string ⟨(dec (mlt 2 a a).2).toArray⟩]) := fun w hG => by
  have HL := Lib.hid (mlt_log 2 a k (by decide) ha hk)
  have HV : Hid (∀ i b, (mlt 2 a a).1 = i → (mlt 2 a a).2 = b → Ending.returned (.tuple #[.int .i64 (i : Int), .string ⟨(dec b).toArray⟩]) = Ending.returned (.tuple #[.int .i64 ((mlt 2 a a).1 : Int), .string ⟨(dec (mlt 2 a a).2).toArray⟩])) := by rintro i b rfl rfl; rfl
  have HA0 : Hid (A = dec a) := hA
  have hla : Hid (∀ b, b ≤ a → (dec b).length ≤ 4000) := fun b hb => Nat.le_trans (dec_len_mono b a hb) (by rw [← hA]; exact hA2)
  clear hA hk hA2
  go_enter Tryz.func132, Tryz.ntmps132
  go_wp2_with fail
  go_loopw [0, 6] (fun av nv wr => ∃ (b i : Nat) (B : List UInt8), 0 < b ∧ b ≤ a ∧ Hid (B = dec b) ∧ av = .string ⟨B.toArray⟩ ∧ nv = .int .i64 (i : Int) ∧ Hid ((mlt 2 a a).1 = i + (mlt 2 b b).1) ∧ Hid ((mlt 2 a a).2 = (mlt 2 b b).2) ∧ i ≤ k ∧ Below w.heap.size w wr) (fun av _ _ => (val (bytesOf av)).natAbs)
  case atStart => exact ⟨a, 0, A, ha, Nat.le_refl _, HA0, rfl, rfl, by show _ = _; omega, rfl, Nat.zero_le _, Below.refl _ _⟩
  case round =>
    obtain ⟨b, i, B, hb0, hba, HB, rfl, rfl, H1, H2, hik, hb⟩ := hrel
    have hlb := hla.out b hba
    have hlr := hla.out (b % 2) (Nat.le_trans (Nat.mod_le b 2) hba)
    rw [← HB.out] at hlb
    have c1 := qDivD (x := b) (y := 2) HB.out (show [(50 : UInt8)] = dec 2 by decide) (by omega) (by decide) (by decide)
    have C1 := Lib.hid c1
    have C2 := Lib.hid (qCompare (l := dec (b % 2)) (l' := []) (by omega) (by decide) (cmp_dec (b % 2)))
    clear c1 hlr
    by_cases h0 : b % 2 = 0
    · obtain ⟨s1, s2, s3⟩ := mlt_step 2 b (by decide) hb0 h0
      rw [if_pos h0] at C2
      have H1' : Hid ((mlt 2 a a).1 = (i + 1) + (mlt 2 (b / 2) (b / 2)).1) := by show _ = _; rw [H1.out, s3]; simp; omega
      have H2' : Hid ((mlt 2 a a).2 = (mlt 2 (b / 2) (b / 2)).2) := by show _ = _; rw [H2.out, s3]
      have hi1 : i + 1 ≤ k := by have := HL.out; rw [H1'.out] at this; omega
      have HM : Hid (val (dec (b / 2)) = ((b / 2 : Nat) : Int)) := by show _ = _; rw [← canon_ofNat, val_canon]
      have HM2 : Hid (val B = (b : Int)) := by show _ = _; rw [HB.out, ← canon_ofNat, val_canon]
      have hs : Hid (b / 2 < b) := s2
      have hs2 : b / 2 ≤ a := by omega
      generalize dec (b % 2) = DR at *
      generalize hqq : b / 2 = q at *
      clear H1 H2 h0 s3 hqq
      go_wp2_with fail
      ((with_reducible refine (C1.out.of hG hb).mono ?_); rintro e w2 ⟨rfl, hb2⟩)
      replace hb := bto hb hb2
      clear hb2
      generalize hdq : dec q = DQ at *
      go_wp2_with fail
      ((with_reducible refine (C2.out.of hG hb).mono ?_); rintro e w3 ⟨rfl, hb3⟩)
      replace hb := bto hb hb3
      clear hb3
      have HDQ := Lib.hid hdq.symm
      clear hdq
      go_wp2
      go_roundw
      case rel => exact ⟨q, i + 1, DQ, s1, hs2, HDQ, rfl, by go_num, H1', H2', hi1, hb⟩
      case measure => simp only [bytesOf]; show (val DQ).natAbs < (val B).natAbs; rw [HM.out, HM2.out]; have := hs.out; omega
    · rw [if_neg h0] at C2
      have s3 := mlt_stop 2 b hb0 h0
      have hv := HV.out i b (by rw [H1.out, s3]; rfl) (by rw [H2.out, s3])
      rw [← HB.out] at hv
      have HV' := Lib.hid hv
      clear s3 h0 H1 H2 hv HV
      generalize dec (b % 2) = DR at *
      go_wp2_with fail
      ((with_reducible refine (C1.out.of hG hb).mono ?_); rintro e w2 ⟨rfl, hb2⟩)
      replace hb := bto hb hb2
      clear hb2
      go_wp2_with fail
      ((with_reducible refine (C2.out.of hG hb).mono ?_); rintro e w3 ⟨rfl, hb3⟩)
      go_wp2
      go_ret2
      exact ⟨HV'.out, bto hb hb3⟩
set_option maxHeartbeats 2000000 in
set_option maxRecDepth 100000 in
theorem eDiv5 {a : Nat} (ha : 0 < a) {k : Nat} (hk : a < 2 ^ k) (hk2 : k ≤ 1000000) {A : List UInt8} (hA : A = dec a) (hA2 : A.length ≤ 4000) : Ret 132 #[.string ⟨A.toArray⟩, .string ⟨#[53]⟩] (.tuple #[.int .i64 ((mlt 5 a a).1 : Int), .string ⟨(dec (mlt 5 a a).2).toArray⟩]) := fun w hG => by
  have HL := Lib.hid (mlt_log 5 a k (by decide) ha hk)
  have HV : Hid (∀ i b, (mlt 5 a a).1 = i → (mlt 5 a a).2 = b → Ending.returned (.tuple #[.int .i64 (i : Int), .string ⟨(dec b).toArray⟩]) = Ending.returned (.tuple #[.int .i64 ((mlt 5 a a).1 : Int), .string ⟨(dec (mlt 5 a a).2).toArray⟩])) := by rintro i b rfl rfl; rfl
  have HA0 : Hid (A = dec a) := hA
  have hla : Hid (∀ b, b ≤ a → (dec b).length ≤ 4000) := fun b hb => Nat.le_trans (dec_len_mono b a hb) (by rw [← hA]; exact hA2)
  clear hA hk hA2
  go_enter Tryz.func132, Tryz.ntmps132
  go_wp2_with fail
  go_loopw [0, 6] (fun av nv wr => ∃ (b i : Nat) (B : List UInt8), 0 < b ∧ b ≤ a ∧ Hid (B = dec b) ∧ av = .string ⟨B.toArray⟩ ∧ nv = .int .i64 (i : Int) ∧ Hid ((mlt 5 a a).1 = i + (mlt 5 b b).1) ∧ Hid ((mlt 5 a a).2 = (mlt 5 b b).2) ∧ i ≤ k ∧ Below w.heap.size w wr) (fun av _ _ => (val (bytesOf av)).natAbs)
  case atStart => exact ⟨a, 0, A, ha, Nat.le_refl _, HA0, rfl, rfl, by show _ = _; omega, rfl, Nat.zero_le _, Below.refl _ _⟩
  case round =>
    obtain ⟨b, i, B, hb0, hba, HB, rfl, rfl, H1, H2, hik, hb⟩ := hrel
    have hlb := hla.out b hba
    have hlr := hla.out (b % 5) (Nat.le_trans (Nat.mod_le b 5) hba)
    rw [← HB.out] at hlb
    have c1 := qDivD (x := b) (y := 5) HB.out (show [(53 : UInt8)] = dec 5 by decide) (by omega) (by decide) (by decide)
    have C1 := Lib.hid c1
    have C2 := Lib.hid (qCompare (l := dec (b % 5)) (l' := []) (by omega) (by decide) (cmp_dec (b % 5)))
    clear c1 hlr
    by_cases h0 : b % 5 = 0
    · obtain ⟨s1, s2, s3⟩ := mlt_step 5 b (by decide) hb0 h0
      rw [if_pos h0] at C2
      have H1' : Hid ((mlt 5 a a).1 = (i + 1) + (mlt 5 (b / 5) (b / 5)).1) := by show _ = _; rw [H1.out, s3]; simp; omega
      have H2' : Hid ((mlt 5 a a).2 = (mlt 5 (b / 5) (b / 5)).2) := by show _ = _; rw [H2.out, s3]
      have hi1 : i + 1 ≤ k := by have := HL.out; rw [H1'.out] at this; omega
      have HM : Hid (val (dec (b / 5)) = ((b / 5 : Nat) : Int)) := by show _ = _; rw [← canon_ofNat, val_canon]
      have HM2 : Hid (val B = (b : Int)) := by show _ = _; rw [HB.out, ← canon_ofNat, val_canon]
      have hs : Hid (b / 5 < b) := s2
      have hs2 : b / 5 ≤ a := by omega
      generalize dec (b % 5) = DR at *
      generalize hqq : b / 5 = q at *
      clear H1 H2 h0 s3 hqq
      go_wp2_with fail
      ((with_reducible refine (C1.out.of hG hb).mono ?_); rintro e w2 ⟨rfl, hb2⟩)
      replace hb := bto hb hb2
      clear hb2
      generalize hdq : dec q = DQ at *
      go_wp2_with fail
      ((with_reducible refine (C2.out.of hG hb).mono ?_); rintro e w3 ⟨rfl, hb3⟩)
      replace hb := bto hb hb3
      clear hb3
      have HDQ := Lib.hid hdq.symm
      clear hdq
      go_wp2
      go_roundw
      case rel => exact ⟨q, i + 1, DQ, s1, hs2, HDQ, rfl, by go_num, H1', H2', hi1, hb⟩
      case measure => simp only [bytesOf]; show (val DQ).natAbs < (val B).natAbs; rw [HM.out, HM2.out]; have := hs.out; omega
    · rw [if_neg h0] at C2
      have s3 := mlt_stop 5 b hb0 h0
      have hv := HV.out i b (by rw [H1.out, s3]; rfl) (by rw [H2.out, s3])
      rw [← HB.out] at hv
      have HV' := Lib.hid hv
      clear s3 h0 H1 H2 hv HV
      generalize dec (b % 5) = DR at *
      go_wp2_with fail
      ((with_reducible refine (C1.out.of hG hb).mono ?_); rintro e w2 ⟨rfl, hb2⟩)
      replace hb := bto hb hb2
      clear hb2
      go_wp2_with fail
      ((with_reducible refine (C2.out.of hG hb).mono ?_); rintro e w3 ⟨rfl, hb3⟩)
      go_wp2
      go_ret2
      exact ⟨HV'.out, bto hb hb3⟩
set_option maxHeartbeats 2000000 in
set_option maxRecDepth 100000 in
theorem eFinite {l l' : List UInt8} {q : Rat} {k : Nat} (hl : l.length ≤ 900) (hl' : l'.length ≤ 900) (hq : fv l l' = q) (b : Bd k q) (hk : k ≤ 900) : Ret 64 #[(Value.agg #[Value.string ⟨List.toArray l⟩, Value.string ⟨List.toArray l'⟩])] (FinV q) := fun w hG => by
  have lb := bd_len b
  have c1 := sParts (l := l) (l' := l') (by omega) (by omega) (by omega) (by omega) hq
  have hd0 : 0 < q.den := q.den_pos
  have hdk : q.den < 2 ^ (4 * k) := Nat.lt_of_lt_of_le b.2 (ten_two k)
  have hE : canon (q.den : Int) = dec q.den := canon_ofNat _
  rw [hE] at c1
  have hl1 : (dec q.den).length ≤ k := Num.dec_len_le _ _ b.2
  have c2 := eDiv2 hd0 hdk (by omega) rfl (by omega)
  obtain ⟨m1, m2⟩ := mlt_snd_le 2 q.den (by decide) hd0
  have hl2 := Nat.le_trans (dec_len_mono _ _ m2) hl1
  have c3 := eDiv5 m1 (Nat.lt_of_le_of_lt m2 hdk) (by omega) rfl (by omega)
  obtain ⟨n1, n2⟩ := mlt_snd_le 5 _ (by decide) m1
  have hl3 := Nat.le_trans (dec_len_mono _ _ n2) hl2
  have c4 := qCompare (l := dec (mlt 5 (mlt 2 q.den q.den).2 (mlt 2 q.den q.den).2).2) (l' := [49]) (by omega) (by decide) (show cmpZ (val (dec (mlt 5 (mlt 2 q.den q.den).2 (mlt 2 q.den q.den).2).2)) (val [49]) = cmpZ ((mlt 5 (mlt 2 q.den q.den).2 (mlt 2 q.den q.den).2).2 : Int) 1 by rw [← canon_ofNat, val_canon]; rfl)
  have hone := cmp_one (mlt 5 (mlt 2 q.den q.den).2 (mlt 2 q.den q.den).2).2
  have HT : Hid ((mlt 5 (mlt 2 q.den q.den).2 (mlt 2 q.den q.den).2).2 = 1 → FinV q = .tuple #[.int .i64 (max ((mlt 2 q.den q.den).1 : Int) ((mlt 5 (mlt 2 q.den q.den).2 (mlt 2 q.den q.den).2).1 : Int)), .bool true]) := fun h => by
    unfold FinV; rw [finE_t h, max_cast]
  have HF : Hid (¬ (mlt 5 (mlt 2 q.den q.den).2 (mlt 2 q.den q.den).2).2 = 1 → FinV q = .tuple #[.int .i64 0, .bool false]) := fun h => by
    unfold FinV; rw [finE_f h]; rfl
  have x1 := FBox.new w (.string ⟨l.toArray⟩) (.string ⟨l'.toArray⟩) 32
  have hb := below_alloc w (.cells #[.string ⟨l.toArray⟩, .string ⟨l'.toArray⟩] 32)
  have u1 := mlt_log 2 q.den _ (by decide) hd0 hdk
  have u2 := mlt_log 5 _ _ (by decide) m1 (Nat.lt_of_le_of_lt m2 hdk)
  clear hE hl1 hl2 hl3 m1 m2 n1 n2 hdk hd0 b lb hl hl' hq
  generalize cmpZ ((mlt 5 (mlt 2 q.den q.den).2 (mlt 2 q.den q.den).2).2 : Int) 1 = c at *
  generalize (mlt 5 (mlt 2 q.den q.den).2 (mlt 2 q.den q.den).2).1 = fv at *
  generalize dec (mlt 5 (mlt 2 q.den q.den).2 (mlt 2 q.den q.den).2).2 = D3 at *
  generalize (mlt 5 (mlt 2 q.den q.den).2 (mlt 2 q.den q.den).2).2 = r3 at *
  generalize (mlt 2 q.den q.den).1 = tw at *
  generalize dec (mlt 2 q.den q.den).2 = D2 at *
  generalize dec q.den = D1 at *
  generalize fN q = N at *
  generalize FinV q = V at *
  have C1 := Lib.hid c1
  have C2 := Lib.hid c2
  have C3 := Lib.hid c3
  have C4 := Lib.hid c4
  have HO := Lib.hid hone
  clear c1 c2 c3 c4 hone
  go_enter Tryz.func64, Tryz.ntmps64
  have qx1_0 := x1.c0
  have qx1_1 := x1.c1
  go_wp2_with fail
  ((with_reducible refine (C1.out.of hG hb).mono ?_); rintro e w2 ⟨rfl, hb2⟩)
  clear qx1_0 qx1_1
  replace x1 := x1.below hb2
  replace hb := bto hb hb2
  clear hb2
  go_wp2_with fail
  ((with_reducible refine (C2.out.of hG hb).mono ?_); rintro e w3 ⟨rfl, hb3⟩)
  replace x1 := x1.below hb3
  replace hb := bto hb hb3
  clear hb3
  go_wp2_with fail
  ((with_reducible refine (C3.out.of hG hb).mono ?_); rintro e w4 ⟨rfl, hb4⟩)
  replace x1 := x1.below hb4
  replace hb := bto hb hb4
  clear hb4
  go_wp2_with fail
  ((with_reducible refine (C4.out.of hG hb).mono ?_); rintro e w5 ⟨rfl, hb5⟩)
  replace x1 := x1.below hb5
  replace hb := bto hb hb5
  clear hb5
  clear x1
  by_cases h1 : c = 0
  · have e1 := intbeq h1
    have e2 := bneq e1
    have HV := Lib.hid (HT.out (HO.out.1 h1))
    clear h1 HT HF HO
    go_wp2
    go_ret2
    exact ⟨by rw [HV.out]; first | done | rfl, hb⟩
  · have e1 := intbne h1
    have e2 := bneq' e1
    have HV := Lib.hid (HF.out (fun h => h1 (HO.out.2 h)))
    clear h1 HT HF HO
    go_wp2
    go_ret2
    exact ⟨by rw [HV.out]; first | done | rfl, hb⟩
/-- the text is longer than examined -/
def greatT (s : List UInt8) : Bool := (decide (60 < s.length) && decide (s.length ≤ 65536)) || decide (65636 < s.length)
set_option maxHeartbeats 1000000 in
set_option maxRecDepth 100000 in
theorem wGreatT (s : List UInt8) : Ret 32 #[.string ⟨s.toArray⟩] (.bool (greatT s)) := fun w hG => by
  have hb := Below.refl w.heap.size w
  unfold greatT
  by_cases h1 : 60 < s.length
  · by_cases h2 : s.length ≤ 65536
    · have e1 : decide (60 < s.length) = true := decide_eq_true h1
      have e2 : decide (s.length ≤ 65536) = true := decide_eq_true h2
      go_enter Tryz.func32, Tryz.ntmps32
      go_wp2
      go_ret
      exact ⟨by first | rfl | (refine congrArg Ending.returned (congrArg Value.bool ?_); rw [Bool.eq_iff_iff]; simp; omega) | simp_all, hb⟩
    · by_cases h3 : 65636 < s.length
      · have e1 : decide (60 < s.length) = true := decide_eq_true h1
        have e2 : decide (s.length ≤ 65536) = false := decide_eq_false h2
        have e3 : decide (65636 < s.length) = true := decide_eq_true h3
        go_enter Tryz.func32, Tryz.ntmps32
        go_wp2
        go_ret
        exact ⟨by first | rfl | (refine congrArg Ending.returned (congrArg Value.bool ?_); rw [Bool.eq_iff_iff]; simp; omega) | simp_all, hb⟩
      · have e1 : decide (60 < s.length) = true := decide_eq_true h1
        have e2 : decide (s.length ≤ 65536) = false := decide_eq_false h2
        have e3 : decide (65636 < s.length) = false := decide_eq_false h3
        go_enter Tryz.func32, Tryz.ntmps32
        go_wp2
        go_ret
        exact ⟨by first | rfl | (refine congrArg Ending.returned (congrArg Value.bool ?_); rw [Bool.eq_iff_iff]; simp; omega) | simp_all, hb⟩
  · have e1 : decide (60 < s.length) = false := decide_eq_false h1
    have h3 : ¬ 65636 < s.length := by omega
    have e3 : decide (65636 < s.length) = false := decide_eq_false h3
    go_enter Tryz.func32, Tryz.ntmps32
    go_wp2
    go_ret
    exact ⟨by first | rfl | (refine congrArg Ending.returned (congrArg Value.bool ?_); rw [Bool.eq_iff_iff]; simp; omega) | simp_all, hb⟩
end Go.Proofs.YtmmhimgkpfcokaaGreatDoor
