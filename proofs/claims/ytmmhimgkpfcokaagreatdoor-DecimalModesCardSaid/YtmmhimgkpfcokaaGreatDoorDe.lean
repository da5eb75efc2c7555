/- Package decimal: Parse, times, Finite, Format. -/
import Derived.Test.YtmmhimgkpfcokaaGreatDoorDd
namespace Go.Proofs.YtmmhimgkpfcokaaGreatDoor
open Go.RowKit Num
/-- the bytes of a string -/
def bytesOf : Value → List UInt8
  | .string s => s.data.toList
  | _ => []
theorem decQ_bd {s : List UInt8} {K : Nat} (hK : s.length + s.length < K) (hd : (decW s ++ decP s).all isDig = true) : Bd K (decQ s) := by
  have hW := decW_len s
  have hP := decP_len s
  unfold decQ
  refine bd_divInt ?_ ?_ ?_
  · have h1 : (decZ s).natAbs = decN' s := by unfold decZ; split <;> omega
    rw [h1]
    unfold decN'
    exact Nat.lt_of_lt_of_le (nat_lt _ hd) (Nat.pow_le_pow_right (by decide) (by rw [List.length_append]; omega))
  · rw [Int.natAbs_natCast]; exact Nat.pow_lt_pow_right (by decide) (by omega)
  · have := Nat.pow_pos (n := (decP s).length) (show 0 < 10 by decide); omega


theorem decOk_dig {s : List UInt8} (h : decOk s = true) : (decW s ++ decP s).all isDig = true := by
  obtain ⟨h1, h2, -, -⟩ := decOk_parts h
  rw [List.all_append, (okW_fmt h1).2.2, h2]; rfl
/-- what Parse returns -/
def ParseV (s : List UInt8) (p : Nat) : Value :=
  if decOk s = true then (if (decQ s * tenQ p).den = 1 then .tuple #[.string ⟨(canon (decQ s * tenQ p).num).toArray⟩, .int .i64 0] else .tuple #[.string ⟨#[]⟩, .int .i64 22]) else .tuple #[.string ⟨#[]⟩, .int .i64 3]
theorem parseV_f {s : List UInt8} {p : Nat} (h : decOk s = false) : ParseV s p = .tuple #[.string ⟨#[]⟩, .int .i64 3] := if_neg (by rw [h]; decide)
theorem parseV_1 {s : List UInt8} {p : Nat} (h : decOk s = true) (h1 : (decQ s * tenQ p).den = 1) : ParseV s p = .tuple #[.string ⟨(canon (decQ s * tenQ p).num).toArray⟩, .int .i64 0] := by unfold ParseV; rw [if_pos h, if_pos h1]
theorem parseV_0 {s : List UInt8} {p : Nat} (h : decOk s = true) (h1 : ¬ (decQ s * tenQ p).den = 1) : ParseV s p = .tuple #[.string ⟨#[]⟩, .int .i64 22] := by unfold ParseV; rw [if_pos h, if_neg h1]
theorem cmp_one (d : Nat) : cmpZ (d : Int) 1 = 0 ↔ d = 1 := by
  unfold cmpZ
  split
  · constructor <;> intro h <;> omega
  · split
    · constructor <;> intro h <;> omega
    · constructor <;> intro h <;> omega
set_option maxHeartbeats 2000000 in
set_option maxRecDepth 100000 in
theorem dParse {s : List UInt8} (hs : s.length ≤ 1000) {p : Nat} (hp : p ≤ 12) : Ret 36 #[.string ⟨s.toArray⟩, .int .i64 (p : Int)] (ParseV s p) := fun w hG => by
  have C1 := Lib.hid (dPlaces (n := (p : Int)) (by omega) (by omega))
  have c2 := dFrac hs
  have hb := Below.refl w.heap.size w
  cases hok : decOk s
  · rw [fracV_f hok] at c2
    have HV := Lib.hid (parseV_f (p := p) hok)
    have C2 := Lib.hid c2
    clear c2 hok hs hp
    go_enter Tryz.func36, Tryz.ntmps36
    go_wp2_with fail
    ((with_reducible refine (C1.out.of hG hb).mono ?_); rintro e w1 ⟨rfl, hb1⟩)
    replace hb := bto hb hb1
    go_wp2_with fail
    ((with_reducible refine (C2.out.of hG hb).mono ?_); rintro e w2 ⟨rfl, hb2⟩)
    replace hb := bto hb hb2
    go_wp2
    go_ret2
    exact ⟨by rw [HV.out]; first | done | rfl, bto hb (below_alloc _ _)⟩
  · rw [fracV_t hok] at c2
    obtain ⟨K, hK1, hK2⟩ : ∃ K, s.length + s.length < K ∧ K ≤ 2001 := ⟨2001, by omega, by omega⟩
    have bq := decQ_bd hK1 (decOk_dig hok)
    have hV1 := parseV_1 (p := p) hok
    have hV0 := parseV_0 (p := p) hok
    have iq := isq_fr bq (by omega)
    have bs := bd_mul bq (bd_ten p)
    have c3 := dShift iq hp rfl
    have c4 := rParts (isq_fr bs (by omega))
    have hde : ((decQ s * tenQ p).den : Int).natAbs < 10 ^ (K + (p + 1)) := by rw [Int.natAbs_natCast]; exact bs.2
    have c5 := riCompare (l := canon ((decQ s * tenQ p).den : Int)) (l' := [49]) (canon_len_of hde (by omega)) (by decide) (show cmpZ (val (canon ((decQ s * tenQ p).den : Int))) (val [49]) = cmpZ ((decQ s * tenQ p).den : Int) 1 by rw [val_canon]; rfl)
    have hone := cmp_one (decQ s * tenQ p).den
    have HN : Hid (fN (decQ s * tenQ p) = canon (decQ s * tenQ p).num) := rfl
    rw [← HN.out] at hV1
    clear HN hde bs iq bq hok hs hK1
    generalize canon ((decQ s * tenQ p).den : Int) = E at *
    generalize cmpZ ((decQ s * tenQ p).den : Int) 1 = c at *
    generalize (decQ s * tenQ p).den = d at *
    generalize fN (decQ s * tenQ p) = M at *
    generalize fD (decQ s * tenQ p) = M' at *
    generalize fN (decQ s) = N at *
    generalize fD (decQ s) = D at *
    generalize ParseV s p = V at *
    have C2 := Lib.hid c2
    have C3 := Lib.hid c3
    have C4 := Lib.hid c4
    have C5 := Lib.hid c5
    have HV1 := Lib.hid hV1
    have HV0 := Lib.hid hV0
    have HO := Lib.hid hone
    clear c2 c3 c4 c5 hV1 hV0 hone hp
    go_enter Tryz.func36, Tryz.ntmps36
    go_wp2_with fail
    ((with_reducible refine (C1.out.of hG hb).mono ?_); rintro e w2 ⟨rfl, hb2⟩)
    replace hb := bto hb hb2
    clear hb2
    go_wp2_with fail
    ((with_reducible refine (C2.out.of hG hb).mono ?_); rintro e w3 ⟨rfl, hb3⟩)
    replace hb := bto hb hb3
    clear hb3
    have x7 := FBox.new w3 (.string ⟨N.toArray⟩) (.string ⟨D.toArray⟩) 32
    replace hb := bto hb (below_alloc w3 (.cells #[.string ⟨N.toArray⟩, .string ⟨D.toArray⟩] 32))
    have qx7_0 := x7.c0
    have qx7_1 := x7.c1
    go_wp2_with fail
    ((with_reducible refine (C3.out.of hG hb).mono ?_); rintro e w4 ⟨rfl, hb4⟩)
    clear qx7_0 qx7_1
    replace x7 := x7.below hb4
    replace hb := bto hb hb4
    clear hb4
    go_wp2_with fail
    ((with_reducible refine (C4.out.of hG hb).mono ?_); rintro e w5 ⟨rfl, hb5⟩)
    replace x7 := x7.below hb5
    replace hb := bto hb hb5
    clear hb5
    go_wp2_with fail
    ((with_reducible refine (C5.out.of hG hb).mono ?_); rintro e w6 ⟨rfl, hb6⟩)
    replace x7 := x7.below hb6
    replace hb := bto hb hb6
    clear hb6
    clear x7
    by_cases h1 : c = 0
    · have e1 := intbeq h1
      have e2 := bneq e1
      have HV := Lib.hid (HV1.out (HO.out.1 h1))
      clear h1
      go_wp2
      go_ret2
      exact ⟨by rw [HV.out]; first | done | rfl, hb⟩
    · have e1 := intbne h1
      have e2 := bneq' e1
      have HV := Lib.hid (HV0.out (fun h => h1 (HO.out.2 h)))
      clear h1
      go_wp2
      go_ret2
      exact ⟨by rw [HV.out]; first | done | rfl, hb⟩
set_option maxHeartbeats 1000000 in
set_option maxRecDepth 100000 in
theorem dParseLong {s : List UInt8} (hs : 65536 < s.length) (hs2 : s.length ≤ 9223372036854775807) {p : Nat} (hp : p ≤ 12) : Ret 36 #[.string ⟨s.toArray⟩, .int .i64 (p : Int)] (.tuple #[.string ⟨#[]⟩, .int .i64 4]) := fun w hG => by
  have C1 := Lib.hid (dPlaces (n := (p : Int)) (by omega) (by omega))
  have C2 := Lib.hid (dFracLong hs hs2)
  have hb := Below.refl w.heap.size w
  clear hs hs2 hp
  go_enter Tryz.func36, Tryz.ntmps36
  go_wp2_with fail
  ((with_reducible refine (C1.out.of hG hb).mono ?_); rintro e w1 ⟨rfl, hb1⟩)
  replace hb := bto hb hb1
  go_wp2_with fail
  ((with_reducible refine (C2.out.of hG hb).mono ?_); rintro e w2 ⟨rfl, hb2⟩)
  replace hb := bto hb hb2
  go_wp2
  go_ret2
  exact ⟨rfl, bto hb (below_alloc _ _)⟩
set_option maxHeartbeats 1000000 in
set_option maxRecDepth 100000 in
theorem dParseOut {s : List UInt8} {n : Int} (hn : n < 0 ∨ 12 < n) : Ret 36 #[.string ⟨s.toArray⟩, .int .i64 n] (.tuple #[.string ⟨#[]⟩, .int .i64 2]) := fun w hG => by
  have C1 := Lib.hid (dPlacesBad hn)
  have hb := Below.refl w.heap.size w
  clear hn
  go_enter Tryz.func36, Tryz.ntmps36
  go_wp2_with fail
  ((with_reducible refine (C1.out.of hG hb).mono ?_); rintro e w1 ⟨rfl, hb1⟩)
  replace hb := bto hb hb1
  go_wp2
  go_ret2
  exact ⟨rfl, hb⟩
theorem canon_ofNat (n : Nat) : canon (n : Int) = dec n := by unfold canon; rw [if_neg (by omega), Int.natAbs_natCast]
theorem mlt_fuel (p : Nat) (hp : 2 ≤ p) : ∀ (f a : Nat), 0 < a → a ≤ f → mlt p f a = mlt p a a
  | 0, a, h, hf => by omega
  | f + 1, a, h, hf => by
    obtain ⟨b, rfl⟩ : ∃ b, a = b + 1 := ⟨a - 1, by omega⟩
    unfold mlt
    by_cases h0 : (b + 1) % p = 0
    · have h1 : b + 1 = p * ((b + 1) / p) := by have := Nat.div_add_mod (b + 1) p; omega
      have h2 : 0 < (b + 1) / p := by
        rcases Nat.eq_zero_or_pos ((b + 1) / p) with h2 | h2
        · rw [h2] at h1; omega
        · exact h2
      have h3 : (b + 1) / p < b + 1 := Nat.div_lt_self h hp
      rw [if_pos h0, if_pos h0, mlt_fuel p hp f _ h2 (by omega), mlt_fuel p hp b _ h2 (by omega)]
    · rw [if_neg h0, if_neg h0]
theorem mlt_step (p a : Nat) (hp : 2 ≤ p) (ha : 0 < a) (h0 : a % p = 0) : 0 < a / p ∧ a / p < a ∧ mlt p a a = ((mlt p (a / p) (a / p)).1 + 1, (mlt p (a / p) (a / p)).2) := by
  have h1 : a = p * (a / p) := by have := Nat.div_add_mod a p; omega
  have h2 : 0 < a / p := by
    rcases Nat.eq_zero_or_pos (a / p) with h2 | h2
    · rw [h2] at h1; omega
    · exact h2
  have h3 : a / p < a := Nat.div_lt_self ha hp
  refine ⟨h2, h3, ?_⟩
  obtain ⟨b, rfl⟩ : ∃ b, a = b + 1 := ⟨a - 1, by omega⟩
  have e : mlt p (b + 1) (b + 1) = ((mlt p b ((b + 1) / p)).1 + 1, (mlt p b ((b + 1) / p)).2) := by
    show (if (b + 1) % p = 0 then _ else _) = _
    rw [if_pos h0]
  rw [e, mlt_fuel p hp b _ h2 (by omega)]
theorem mlt_stop (p a : Nat) (ha : 0 < a) (h0 : ¬ a % p = 0) : mlt p a a = (0, a) := by
  obtain ⟨b, rfl⟩ : ∃ b, a = b + 1 := ⟨a - 1, by omega⟩
  show (if (b + 1) % p = 0 then _ else _) = _
  rw [if_neg h0]
theorem riDivN {x y : Nat} {lx ly : List UInt8} (ex : lx = dec x) (ey : ly = dec y) (hx : lx.length ≤ 100000000) (hy : ly.length ≤ 100000000) (h0 : y ≠ 0) : Ret 123 #[.string ⟨lx.toArray⟩, .string ⟨ly.toArray⟩] (.tuple #[.string ⟨(dec (x / y)).toArray⟩, .string ⟨(dec (x % y)).toArray⟩, .int .i64 0]) := by
  have vx : val lx = (x : Int) := by rw [ex, ← canon_ofNat, val_canon]
  have vy : val ly = (y : Int) := by rw [ey, ← canon_ofNat, val_canon]
  have h := riDiv (l := lx) (l' := ly) hx hy (by rw [vy]; omega) (show divZ (val lx) (val ly) = ((x / y : Nat) : Int) by rw [vx, vy]; unfold divZ; rw [if_pos (by omega)]; rfl) (show modZ (val lx) (val ly) = ((x % y : Nat) : Int) by rw [vx, vy]; unfold modZ; rw [if_pos (by omega)]; rfl)
  rwa [canon_ofNat, canon_ofNat] at h
theorem dec_nil (n : Nat) (h : n = 0) : (dec n == []) = true ∧ (dec n).isEmpty = true := by rw [h]; decide
theorem dec_ne (n : Nat) (h : ¬ n = 0) : (dec n == []) = false ∧ (dec n).isEmpty = false := by
  have : dec n ≠ [] := fun e => h ((dec_eq_nil n).1 e)
  exact ⟨by rw [beq_eq_false_iff_ne]; exact this, by rw [List.isEmpty_eq_false_iff]; exact this⟩
theorem mlt_bound (p a : Nat) (hp : 2 ≤ p) (ha : 0 < a) : (mlt p a a).1 ≤ a := by
  obtain ⟨h1, h2⟩ := mlt_spec p hp a a ha (Nat.le_refl _)
  have h3 : (mlt p a a).1 < p ^ (mlt p a a).1 := Nat.lt_of_lt_of_le Nat.lt_two_pow_self (Nat.pow_le_pow_left hp _)
  have h4 : 0 < (mlt p a a).2 := by
    rcases Nat.eq_zero_or_pos (mlt p a a).2 with e | e
    · rw [e] at h2; simp at h2
    · exact e
  have h5 : p ^ (mlt p a a).1 * 1 ≤ p ^ (mlt p a a).1 * (mlt p a a).2 := Nat.mul_le_mul_left _ h4
  omega
theorem mlt_log (p a k : Nat) (hp : 2 ≤ p) (ha : 0 < a) (hk : a < 2 ^ k) : (mlt p a a).1 ≤ k := by
  obtain ⟨h1, h2⟩ := mlt_spec p hp a a ha (Nat.le_refl _)
  have h4 : 0 < (mlt p a a).2 := by
    rcases Nat.eq_zero_or_pos (mlt p a a).2 with e | e
    · rw [e] at h2; simp at h2
    · exact e
  have h5 : p ^ (mlt p a a).1 * 1 ≤ p ^ (mlt p a a).1 * (mlt p a a).2 := Nat.mul_le_mul_left _ h4
  have h6 : 2 ^ (mlt p a a).1 ≤ p ^ (mlt p a a).1 := Nat.pow_le_pow_left hp _
  have h7 : 2 ^ (mlt p a a).1 < 2 ^ k := by omega
  exact Nat.le_of_lt ((Nat.pow_lt_pow_iff_right (by decide)).1 h7)
set_option maxHeartbeats 2000000 in
set_option maxRecDepth 100000 in
theorem dTimes2 {a : Nat} (ha : 0 < a) {k : Nat} (hk : a < 2 ^ k) (hk2 : k ≤ 1000000) {A : List UInt8} (hA : A = dec a) (hA2 : A.length ≤ 1000000) : Ret 131 #[.string ⟨A.toArray⟩, .string ⟨#[50]⟩] (.tuple #[.int .i64 ((mlt 2 a a).1 : Int), .string ⟨(dec (mlt 2 a a).2).toArray⟩]) := fun w hG => by
  have HL := Lib.hid (mlt_log 2 a k (by decide) ha hk)
  have HV : Hid (∀ i b, (mlt 2 a a).1 = i → (mlt 2 a a).2 = b → Ending.returned (.tuple #[.int .i64 (i : Int), .string ⟨(dec b).toArray⟩]) = Ending.returned (.tuple #[.int .i64 ((mlt 2 a a).1 : Int), .string ⟨(dec (mlt 2 a a).2).toArray⟩])) := by rintro i b rfl rfl; rfl
  have HA0 : Hid (A = dec a) := hA
  have hla : Hid (∀ b, b ≤ a → (dec b).length ≤ 1000000) := fun b hb => Nat.le_trans (dec_len_mono b a hb) (by rw [← hA]; exact hA2)
  clear hA hk hA2
  go_enter Tryz.func131, Tryz.ntmps131
  go_wp2_with fail
  go_loopw [0, 6] (fun av nv wr => ∃ (b i : Nat) (B : List UInt8), 0 < b ∧ b ≤ a ∧ Hid (B = dec b) ∧ av = .string ⟨B.toArray⟩ ∧ nv = .int .i64 (i : Int) ∧ Hid ((mlt 2 a a).1 = i + (mlt 2 b b).1) ∧ Hid ((mlt 2 a a).2 = (mlt 2 b b).2) ∧ i ≤ k ∧ Below w.heap.size w wr) (fun av _ _ => (val (bytesOf av)).natAbs)
  case atStart => exact ⟨a, 0, A, ha, Nat.le_refl _, HA0, rfl, rfl, by show _ = _; omega, rfl, Nat.zero_le _, Below.refl _ _⟩
  case round =>
    obtain ⟨b, i, B, hb0, hba, HB, rfl, rfl, H1, H2, hik, hb⟩ := hrel
    have hlb := hla.out b hba
    rw [← HB.out] at hlb
    have c1 := riDivN (x := b) (y := 2) HB.out (show [(50 : UInt8)] = dec 2 by decide) (by omega) (by decide) (by decide)
    have C1 := Lib.hid c1
    clear c1
    by_cases h0 : b % 2 = 0
    · obtain ⟨s1, s2, s3⟩ := mlt_step 2 b (by decide) hb0 h0
      obtain ⟨e1, e2⟩ := dec_nil _ h0
      have H1' : Hid ((mlt 2 a a).1 = (i + 1) + (mlt 2 (b / 2) (b / 2)).1) := by show _ = _; rw [H1.out, s3]; simp; omega
      have H2' : Hid ((mlt 2 a a).2 = (mlt 2 (b / 2) (b / 2)).2) := by show _ = _; rw [H2.out, s3]
      have hi1 : i + 1 ≤ k := by have := HL.out; rw [H1'.out] at this; omega
      have HM : Hid (val (dec (b / 2)) = ((b / 2 : Nat) : Int)) := by show _ = _; rw [← canon_ofNat, val_canon]
      have HM2 : Hid (val B = (b : Int)) := by show _ = _; rw [HB.out, ← canon_ofNat, val_canon]
      have HB' : Hid (∃ B', B' = dec (b / 2)) := ⟨_, rfl⟩
      have hs : Hid (b / 2 < b) := s2
      have hs2 : b / 2 ≤ a := by omega
      generalize hrr : b % 2 = r at *
      generalize hqq : b / 2 = q at *
      clear H1 H2 h0 s3 hrr
      go_wp2_with fail
      ((with_reducible refine (C1.out.of hG hb).mono ?_); rintro e w2 ⟨rfl, hb2⟩)
      replace hb := bto hb hb2
      clear hb2
      generalize hdq : dec q = DQ at *
      go_wp2
      go_roundw
      case rel => exact ⟨q, i + 1, DQ, s1, hs2, hdq.symm, rfl, by go_num, H1', H2', hi1, hb⟩
      case measure => simp only [bytesOf]; show (val DQ).natAbs < (val B).natAbs; rw [HM.out, HM2.out]; have := hs.out; omega
    · obtain ⟨e1, e2⟩ := dec_ne _ h0
      have s3 := mlt_stop 2 b hb0 h0
      have hv := HV.out i b (by rw [H1.out, s3]; rfl) (by rw [H2.out, s3])
      rw [← HB.out] at hv
      have HV' := Lib.hid hv
      clear s3 h0 H1 H2 hv HV
      generalize dec (b % 2) = DR at *
      go_wp2_with fail
      ((with_reducible refine (C1.out.of hG hb).mono ?_); rintro e w2 ⟨rfl, hb2⟩)
      go_wp2
      go_ret2
      exact ⟨HV'.out, bto hb hb2⟩
set_option maxHeartbeats 2000000 in
set_option maxRecDepth 100000 in
theorem dTimes5 {a : Nat} (ha : 0 < a) {k : Nat} (hk : a < 2 ^ k) (hk2 : k ≤ 1000000) {A : List UInt8} (hA : A = dec a) (hA2 : A.length ≤ 1000000) : Ret 131 #[.string ⟨A.toArray⟩, .string ⟨#[53]⟩] (.tuple #[.int .i64 ((mlt 5 a a).1 : Int), .string ⟨(dec (mlt 5 a a).2).toArray⟩]) := fun w hG => by
  have HL := Lib.hid (mlt_log 5 a k (by decide) ha hk)
  have HV : Hid (∀ i b, (mlt 5 a a).1 = i → (mlt 5 a a).2 = b → Ending.returned (.tuple #[.int .i64 (i : Int), .string ⟨(dec b).toArray⟩]) = Ending.returned (.tuple #[.int .i64 ((mlt 5 a a).1 : Int), .string ⟨(dec (mlt 5 a a).2).toArray⟩])) := by rintro i b rfl rfl; rfl
  have HA0 : Hid (A = dec a) := hA
  have hla : Hid (∀ b, b ≤ a → (dec b).length ≤ 1000000) := fun b hb => Nat.le_trans (dec_len_mono b a hb) (by rw [← hA]; exact hA2)
  clear hA hk hA2
  go_enter Tryz.func131, Tryz.ntmps131
  go_wp2_with fail
  go_loopw [0, 6] (fun av nv wr => ∃ (b i : Nat) (B : List UInt8), 0 < b ∧ b ≤ a ∧ Hid (B = dec b) ∧ av = .string ⟨B.toArray⟩ ∧ nv = .int .i64 (i : Int) ∧ Hid ((mlt 5 a a).1 = i + (mlt 5 b b).1) ∧ Hid ((mlt 5 a a).2 = (mlt 5 b b).2) ∧ i ≤ k ∧ Below w.heap.size w wr) (fun av _ _ => (val (bytesOf av)).natAbs)
  case atStart => exact ⟨a, 0, A, ha, Nat.le_refl _, HA0, rfl, rfl, by show _ = _; omega, rfl, Nat.zero_le _, Below.refl _ _⟩
  case round =>
    obtain ⟨b, i, B, hb0, hba, HB, rfl, rfl, H1, H2, hik, hb⟩ := hrel
    have hlb := hla.out b hba
    rw [← HB.out] at hlb
    have c1 := riDivN (x := b) (y := 5) HB.out (show [(53 : UInt8)] = dec 5 by decide) (by omega) (by decide) (by decide)
    have C1 := Lib.hid c1
    clear c1
    by_cases h0 : b % 5 = 0
    · obtain ⟨s1, s2, s3⟩ := mlt_step 5 b (by decide) hb0 h0
      obtain ⟨e1, e2⟩ := dec_nil _ h0
      have H1' : Hid ((mlt 5 a a).1 = (i + 1) + (mlt 5 (b / 5) (b / 5)).1) := by show _ = _; rw [H1.out, s3]; simp; omega
      have H2' : Hid ((mlt 5 a a).2 = (mlt 5 (b / 5) (b / 5)).2) := by show _ = _; rw [H2.out, s3]
      have hi1 : i + 1 ≤ k := by have := HL.out; rw [H1'.out] at this; omega
      have HM : Hid (val (dec (b / 5)) = ((b / 5 : Nat) : Int)) := by show _ = _; rw [← canon_ofNat, val_canon]
      have HM2 : Hid (val B = (b : Int)) := by show _ = _; rw [HB.out, ← canon_ofNat, val_canon]
      have HB' : Hid (∃ B', B' = dec (b / 5)) := ⟨_, rfl⟩
      have hs : Hid (b / 5 < b) := s2
      have hs2 : b / 5 ≤ a := by omega
      generalize hrr : b % 5 = r at *
      generalize hqq : b / 5 = q at *
      clear H1 H2 h0 s3 hrr
      go_wp2_with fail
      ((with_reducible refine (C1.out.of hG hb).mono ?_); rintro e w2 ⟨rfl, hb2⟩)
      replace hb := bto hb hb2
      clear hb2
      generalize hdq : dec q = DQ at *
      go_wp2
      go_roundw
      case rel => exact ⟨q, i + 1, DQ, s1, hs2, hdq.symm, rfl, by go_num, H1', H2', hi1, hb⟩
      case measure => simp only [bytesOf]; show (val DQ).natAbs < (val B).natAbs; rw [HM.out, HM2.out]; have := hs.out; omega
    · obtain ⟨e1, e2⟩ := dec_ne _ h0
      have s3 := mlt_stop 5 b hb0 h0
      have hv := HV.out i b (by rw [H1.out, s3]; rfl) (by rw [H2.out, s3])
      rw [← HB.out] at hv
      have HV' := Lib.hid hv
      clear s3 h0 H1 H2 hv HV
      generalize dec (b % 5) = DR at *
      go_wp2_with fail
      ((with_reducible refine (C1.out.of hG hb).mono ?_); rintro e w2 ⟨rfl, hb2⟩)
      go_wp2
      go_ret2
      exact ⟨HV'.out, bto hb hb2⟩
/-- what Finite returns -/
def FinV (q : Rat) : Value := .tuple #[.int .i64 ((finE q.den).1 : Int), .bool (finE q.den).2]
theorem finE_t {d : Nat} (h : (mlt 5 (mlt 2 d d).2 (mlt 2 d d).2).2 = 1) : finE d = (max (mlt 2 d d).1 (mlt 5 (mlt 2 d d).2 (mlt 2 d d).2).1, true) := by unfold finE; rw [if_pos h]
theorem finE_f {d : Nat} (h : ¬ (mlt 5 (mlt 2 d d).2 (mlt 2 d d).2).2 = 1) : finE d = (0, false) := by unfold finE; rw [if_neg h]
theorem mlt_snd_le (p a : Nat) (hp : 2 ≤ p) (ha : 0 < a) : 0 < (mlt p a a).2 ∧ (mlt p a a).2 ≤ a := by
  obtain ⟨h1, h2⟩ := mlt_spec p hp a a ha (Nat.le_refl _)
  have h4 : 0 < (mlt p a a).2 := by
    rcases Nat.eq_zero_or_pos (mlt p a a).2 with e | e
    · rw [e] at h2; simp at h2
    · exact e
  have h5 : 0 < p ^ (mlt p a a).1 := Nat.pow_pos (by omega)
  refine ⟨h4, ?_⟩
  have h6 : 1 * (mlt p a a).2 ≤ p ^ (mlt p a a).1 * (mlt p a a).2 := Nat.mul_le_mul_right _ h5
  omega
theorem ten_two (k : Nat) : 10 ^ k ≤ 2 ^ (4 * k) := by rw [Nat.pow_mul]; exact Nat.pow_le_pow_left (by decide) _
theorem max_cast (a b : Nat) : max (a : Int) (b : Int) = ((max a b : Nat) : Int) := by omega
set_option maxHeartbeats 2000000 in
set_option maxRecDepth 100000 in
theorem dFinite {l l' : List UInt8} {q : Rat} {k : Nat} (h : IsQ l l' q) (b : Bd k q) (hk : k ≤ 90000) : Ret 63 #[(Value.agg #[Value.string ⟨List.toArray l⟩, Value.string ⟨List.toArray l'⟩])] (FinV q) := fun w hG => by
  have c1 := rParts h
  have hd0 : 0 < q.den := q.den_pos
  have hdk : q.den < 2 ^ (4 * k) := Nat.lt_of_lt_of_le b.2 (ten_two k)
  have hE : canon (q.den : Int) = dec q.den := canon_ofNat _
  rw [hE] at c1
  have hl1 : (dec q.den).length ≤ k := dec_len_le _ _ b.2
  have c2 := dTimes2 hd0 hdk (by omega) rfl (by omega)
  obtain ⟨m1, m2⟩ := mlt_snd_le 2 q.den (by decide) hd0
  have hl2 := Nat.le_trans (dec_len_mono _ _ m2) hl1
  have c3 := dTimes5 m1 (Nat.lt_of_le_of_lt m2 hdk) (by omega) rfl (by omega)
  obtain ⟨n1, n2⟩ := mlt_snd_le 5 _ (by decide) m1
  have hl3 := Nat.le_trans (dec_len_mono _ _ n2) hl2
  have c4 := riCompare (l := dec (mlt 5 (mlt 2 q.den q.den).2 (mlt 2 q.den q.den).2).2) (l' := [49]) (by omega) (by decide) (show cmpZ (val (dec (mlt 5 (mlt 2 q.den q.den).2 (mlt 2 q.den q.den).2).2)) (val [49]) = cmpZ ((mlt 5 (mlt 2 q.den q.den).2 (mlt 2 q.den q.den).2).2 : Int) 1 by rw [← canon_ofNat, val_canon]; rfl)
  have hone := cmp_one (mlt 5 (mlt 2 q.den q.den).2 (mlt 2 q.den q.den).2).2
  have HT : Hid ((mlt 5 (mlt 2 q.den q.den).2 (mlt 2 q.den q.den).2).2 = 1 → FinV q = .tuple #[.int .i64 (max ((mlt 2 q.den q.den).1 : Int) ((mlt 5 (mlt 2 q.den q.den).2 (mlt 2 q.den q.den).2).1 : Int)), .bool true]) := fun h => by
    unfold FinV; rw [finE_t h, max_cast]
  have HF : Hid (¬ (mlt 5 (mlt 2 q.den q.den).2 (mlt 2 q.den q.den).2).2 = 1 → FinV q = .tuple #[.int .i64 0, .bool false]) := fun h => by
    unfold FinV; rw [finE_f h]; rfl
  have x1 := FBox.new w (.string ⟨l.toArray⟩) (.string ⟨l'.toArray⟩) 32
  have hb := below_alloc w (.cells #[.string ⟨l.toArray⟩, .string ⟨l'.toArray⟩] 32)
  have u1 := mlt_log 2 q.den _ (by decide) hd0 hdk
  have u2 := mlt_log 5 _ _ (by decide) m1 (Nat.lt_of_le_of_lt m2 hdk)
  clear hE hl1 hl2 hl3 m1 m2 n1 n2 hdk hd0 h b
  generalize cmpZ ((mlt 5 (mlt 2 q.den q.den).2 (mlt 2 q.den q.den).2).2 : Int) 1 = c at *
  generalize (mlt 5 (mlt 2 q.den q.den).2 (mlt 2 q.den q.den).2).1 = fv at *
  generalize dec (mlt 5 (mlt 2 q.den q.den).2 (mlt 2 q.den q.den).2).2 = D3 at *
  generalize (mlt 5 (mlt 2 q.den q.den).2 (mlt 2 q.den q.den).2).2 = r3 at *
  generalize (mlt 2 q.den q.den).1 = tw at *
  generalize dec (mlt 2 q.den q.den).2 = D2 at *
  generalize dec q.den = D1 at *
  generalize fN q = N at *
  generalize FinV q = V at *
  have C1 := Lib.hid c1
  have C2 := Lib.hid c2
  have C3 := Lib.hid c3
  have C4 := Lib.hid c4
  have HO := Lib.hid hone
  clear c1 c2 c3 c4 hone
  go_enter Tryz.func63, Tryz.ntmps63
  have qx1_0 := x1.c0
  have qx1_1 := x1.c1
  go_wp2_with fail
  ((with_reducible refine (C1.out.of hG hb).mono ?_); rintro e w2 ⟨rfl, hb2⟩)
  clear qx1_0 qx1_1
  replace x1 := x1.below hb2
  replace hb := bto hb hb2
  clear hb2
  go_wp2_with fail
  ((with_reducible refine (C2.out.of hG hb).mono ?_); rintro e w3 ⟨rfl, hb3⟩)
  replace x1 := x1.below hb3
  replace hb := bto hb hb3
  clear hb3
  go_wp2_with fail
  ((with_reducible refine (C3.out.of hG hb).mono ?_); rintro e w4 ⟨rfl, hb4⟩)
  replace x1 := x1.below hb4
  replace hb := bto hb hb4
  clear hb4
  go_wp2_with fail
  ((with_reducible refine (C4.out.of hG hb).mono ?_); rintro e w5 ⟨rfl, hb5⟩)
  replace x1 := x1.below hb5
  replace hb := bto hb hb5
  clear hb5
  clear x1
  by_cases h1 : c = 0
  · have e1 := intbeq h1
    have e2 := bneq e1
    have HV := Lib.hid (HT.out (HO.out.1 h1))
    clear h1 HT HF HO
    go_wp2
    go_ret2
    exact ⟨by rw [HV.out]; first | done | rfl, hb⟩
  · have e1 := intbne h1
    have e2 := bneq' e1
    have HV := Lib.hid (HF.out (fun h => h1 (HO.out.2 h)))
    clear h1 HT HF HO
    go_wp2
    go_ret2
    exact ⟨by rw [HV.out]; first | done | rfl, hb⟩
set_option maxHeartbeats 2000000 in
set_option maxRecDepth 100000 in
theorem dFormat {l l' : List UInt8} {q : Rat} {k : Nat} (h : IsQ l l' q) (b : Bd k q) (hk : k ≤ 900) {p : Nat} (hp : p ≤ 12) {m : Int} (h1 : 1 ≤ m) (h6 : m ≤ 6) {z : Int} (e : rnd (q * tenQ p) m = z) : Ret 58 #[(Value.agg #[Value.string ⟨List.toArray l⟩, Value.string ⟨List.toArray l'⟩]), .int .i64 (p : Int), .int .i64 m] (.tuple #[.string ⟨(textD z p).toArray⟩, .int .i64 0]) := fun w hG => by
  have c1 := dScale h b (by omega) hp h1 h6 e
  have bs := bd_mul b (bd_ten p)
  have hzl : z.natAbs < 10 ^ (k + (p + 1) + 1) := by
    rw [← e]
    have h2 := rnd_le (q * tenQ p) m
    have h3 := fl_abs (q * tenQ p)
    have h4 := bs.1
    rw [Nat.pow_succ]
    omega
  have c2 := dText (l := canon z) (canon_len_of hzl (by omega)) (val_canon z) hp
  generalize canon z = Z at *
  generalize textD z p = T at *
  have C2 := Lib.hid c2
  clear c2 hzl bs e h b
  have C1 := Lib.hid c1
  have x3 := FBox.new w (.string ⟨l.toArray⟩) (.string ⟨l'.toArray⟩) 32
  have hb := below_alloc w (.cells #[.string ⟨l.toArray⟩, .string ⟨l'.toArray⟩] 32)
  go_enter Tryz.func58, Tryz.ntmps58
  have qx3_0 := x3.c0
  have qx3_1 := x3.c1
  go_wp2_with fail
  ((with_reducible refine (C1.out.of hG hb).mono ?_); rintro e w2 ⟨rfl, hb2⟩)
  clear qx3_0 qx3_1
  replace x3 := x3.below hb2
  replace hb := bto hb hb2
  clear hb2
  clear x3
  go_wp2_with fail
  ((with_reducible refine (C2.out.of hG hb).mono ?_); rintro e w3 ⟨rfl, hb3⟩)
  replace hb := bto hb hb3
  clear hb3
  go_wp2
  go_ret2
  exact ⟨rfl, hb⟩
set_option maxHeartbeats 2000000 in
set_option maxRecDepth 100000 in
theorem dFormatBad {l l' : List UInt8} {q : Rat} {k : Nat} (h : IsQ l l' q) (b : Bd k q) (hk : k ≤ 900) {p : Nat} (hp : p ≤ 12) {m : Int} (hm : m < 1 ∨ 6 < m) : Ret 58 #[(Value.agg #[Value.string ⟨List.toArray l⟩, Value.string ⟨List.toArray l'⟩]), .int .i64 (p : Int), .int .i64 m] (.tuple #[.string ⟨#[]⟩, .int .i64 7]) := fun w hG => by
  have c1 := dScaleBad h b (by omega) hp hm
  clear h b hm
  have C1 := Lib.hid c1
  have x3 := FBox.new w (.string ⟨l.toArray⟩) (.string ⟨l'.toArray⟩) 32
  have hb := below_alloc w (.cells #[.string ⟨l.toArray⟩, .string ⟨l'.toArray⟩] 32)
  go_enter Tryz.func58, Tryz.ntmps58
  have qx3_0 := x3.c0
  have qx3_1 := x3.c1
  go_wp2_with fail
  ((with_reducible refine (C1.out.of hG hb).mono ?_); rintro e w2 ⟨rfl, hb2⟩)
  clear qx3_0 qx3_1
  replace x3 := x3.below hb2
  replace hb := bto hb hb2
  clear hb2
  clear x3
  go_wp2
  go_ret2
  exact ⟨rfl, hb⟩
set_option maxHeartbeats 2000000 in
set_option maxRecDepth 100000 in
theorem dFormatOut {l l' : List UInt8} {n : Int} (hn : n < 0 ∨ 12 < n) (m : Int) : Ret 58 #[(Value.agg #[Value.string ⟨List.toArray l⟩, Value.string ⟨List.toArray l'⟩]), .int .i64 n, .int .i64 m] (.tuple #[.string ⟨#[]⟩, .int .i64 2]) := fun w hG => by
  have c1 := dScaleOut (l := l) (l' := l') hn m
  clear hn
  have C1 := Lib.hid c1
  have x3 := FBox.new w (.string ⟨l.toArray⟩) (.string ⟨l'.toArray⟩) 32
  have hb := below_alloc w (.cells #[.string ⟨l.toArray⟩, .string ⟨l'.toArray⟩] 32)
  go_enter Tryz.func58, Tryz.ntmps58
  have qx3_0 := x3.c0
  have qx3_1 := x3.c1
  go_wp2_with fail
  ((with_reducible refine (C1.out.of hG hb).mono ?_); rintro e w2 ⟨rfl, hb2⟩)
  clear qx3_0 qx3_1
  replace x3 := x3.below hb2
  replace hb := bto hb hb2
  clear hb2
  clear x3
  go_wp2
  go_ret2
  exact ⟨rfl, hb⟩
end Go.Proofs.YtmmhimgkpfcokaaGreatDoor
