/- Package decimal: rounding. -/
import Derived.Test.YtmmhimgkpfcokaaGreatDoorDp
namespace Go.Proofs.YtmmhimgkpfcokaaGreatDoor
open Go.RowKit Num
section
variable {l l' : List UInt8}
theorem riDiv (hl : l.length ≤ 100000000) (hl' : l'.length ≤ 100000000) (h0 : val l' ≠ 0) {q r : Int} (e : divZ (val l) (val l') = q) (e' : modZ (val l) (val l') = r) : Ret 123 #[.string ⟨l.toArray⟩, .string ⟨l'.toArray⟩] (.tuple #[.string ⟨(canon q).toArray⟩, .string ⟨(canon r).toArray⟩, .int .i64 0]) := fun w hG => by
  subst e; subst e'; exact idiv_any l l' w hl hl' hG h0
theorem riNeg (hl : l.length ≤ 100000000) {z : Int} (e : -val l = z) : Ret 54 #[.string ⟨l.toArray⟩] (.string ⟨(canon z).toArray⟩) := fun w hG => by
  subst e; exact neg_any l w hl hG
theorem riMul (hl : l.length ≤ 100000000) (hl' : l'.length ≤ 100000000) {z : Int} (e : val l * val l' = z) : Ret 46 #[.string ⟨l.toArray⟩, .string ⟨l'.toArray⟩] (.string ⟨(canon z).toArray⟩) := fun w hG => by
  subst e; exact mul_any l l' w hl hl' hG
theorem riCanonical (hl : l.length ≤ 1000000) {z : Int} (e : val l = z) : Ret 41 #[.string ⟨l.toArray⟩] (.string ⟨(canon z).toArray⟩) := fun w _ => by
  subst e; exact canonical_any l w hl
theorem riPower (hl : l.length ≤ 100000) {n : Nat} (hn : n ≤ 400) {z : Int} (e : val l ^ n = z) : Ret 40 #[.string ⟨l.toArray⟩, .int .i64 (n : Int)] (.tuple #[.string ⟨(canon z).toArray⟩, .int .i64 0]) := fun w hG => by
  subst e; exact ipower_any l n w hl hn hG
end
theorem str_nil {z : Int} (h : z = 0) : (canon z == []) = true ∧ (canon z).isEmpty = true := by rw [h]; decide
theorem str_ne {z : Int} (h : z ≠ 0) : (canon z == []) = false ∧ (canon z).isEmpty = false := by
  have : canon z ≠ [] := fun e => h ((canon_eq_nil z).1 e)
  exact ⟨by rw [beq_eq_false_iff_ne]; exact this, by rw [List.isEmpty_eq_false_iff]; exact this⟩
theorem canon_len_of {z : Int} {k : Nat} (h : z.natAbs < 10 ^ k) {n : Nat} (hn : k + 1 ≤ n) : (canon z).length ≤ n := Nat.le_trans (canon_len_le _ _ h) hn
set_option maxHeartbeats 1000000 in
set_option maxRecDepth 100000 in
theorem dEven {l : List UInt8} (hl : l.length ≤ 1000000) {z : Int} (e : val l = z) : Ret 124 #[.string ⟨l.toArray⟩] (.bool (decide (z % 2 = 0))) := fun w hG => by
  have c1 := riDiv (l := l) (l' := [50]) (by omega) (by decide) (by decide) rfl (show modZ (val l) (val [50]) = z % 2 by rw [e]; rfl)
  generalize divZ (val l) (val [50]) = q at c1
  have hb := Below.refl w.heap.size w
  have H1 := Lib.hid c1
  clear c1 e
  by_cases h : z % 2 = 0
  · obtain ⟨e1, e2⟩ := str_nil h
    rw [decide_eq_true h]
    generalize z % 2 = r at *
    go_enter Tryz.func124, Tryz.ntmps124
    go_wp2_with fail
    ((with_reducible refine (H1.out.of hG hb).mono ?_); rintro e w1 ⟨rfl, hb2⟩)
    go_wp2
    go_ret
    exact ⟨rfl, bto hb hb2⟩
  · obtain ⟨e1, e2⟩ := str_ne h
    rw [decide_eq_false h]
    generalize z % 2 = r at *
    go_enter Tryz.func124, Tryz.ntmps124
    go_wp2_with fail
    ((with_reducible refine (H1.out.of hG hb).mono ?_); rintro e w1 ⟨rfl, hb2⟩)
    go_wp2
    go_ret
    exact ⟨rfl, bto hb hb2⟩
/-- what Round reckons, and where it leads -/
structure RndF (q : Rat) (fl r c s : Int) : Prop where
  efl : q.floor = fl
  er : q.num % q.den = r
  ec : cmpZ (r + r) q.den = c
  es : cmpZ q.num 0 = s
theorem rndF (q : Rat) : RndF q q.floor (q.num % q.den) (halfC q) (cmpZ q.num 0) := ⟨rfl, rfl, by unfold halfC; congr 1; omega, rfl⟩
theorem rest_zero (q : Rat) : q.num % q.den = 0 ↔ q.den = 1 := by
  rw [den_one]
  have h := rest_den q
  have hd := den_pos' q
  constructor
  · intro e
    rw [e] at h
    rcases Rat.mul_eq_zero.1 h with h1 | h1
    · grind
    · grind
  · intro e
    rw [← e, Rat.sub_self, Rat.zero_mul] at h
    exact (Rat.intCast_inj.1 (h.symm.trans rfl))
theorem sgn_fl (q : Rat) : cmpZ q.num 0 < 0 ↔ q.floor < 0 := by
  rw [← fl_neg, Rat.lt_iff]
  unfold cmpZ
  simp
  split
  · simp_all
  · split <;> simp_all
theorem rnd_whole {q : Rat} {fl r c s : Int} (H : RndF q fl r c s) (h : r = 0) (m : Int) : rnd q m = fl := by
  unfold rnd; rw [if_pos ((rest_zero q).1 (H.er.trans h)), H.efl]
theorem rnd_up {q : Rat} {fl r c s : Int} (H : RndF q fl r c s) (h : r ≠ 0) {m : Int} (hu : upB fl c m = true) : rnd q m = fl + 1 := by
  have hc : halfC q = c := by rw [← H.ec]; unfold halfC; rw [H.er]; congr 1; omega
  unfold rnd; rw [if_neg (fun e => h (H.er.symm.trans ((rest_zero q).2 e))), H.efl, hc, if_pos hu]
theorem rnd_dn {q : Rat} {fl r c s : Int} (H : RndF q fl r c s) (h : r ≠ 0) {m : Int} (hu : upB fl c m = false) : rnd q m = fl := by
  have hc : halfC q = c := by rw [← H.ec]; unfold halfC; rw [H.er]; congr 1; omega
  unfold rnd; rw [if_neg (fun e => h (H.er.symm.trans ((rest_zero q).2 e))), H.efl, hc, if_neg (by rw [hu]; decide)]
theorem mod_den (q : Rat) : modZ q.num q.den = q.num % q.den := by unfold modZ; rw [if_pos (by have := q.den_nz; omega)]
theorem div_den (q : Rat) : divZ q.num q.den = q.floor := by unfold divZ; rw [if_pos (by have := q.den_nz; omega), floor_num]
theorem fl_abs (q : Rat) : q.floor.natAbs ≤ q.num.natAbs := by rw [floor_num]; exact Int.natAbs_ediv_le_natAbs _ _
theorem mod_abs (q : Rat) : (q.num % q.den).natAbs < q.den := by
  have h := q.den_nz
  have h1 := Int.emod_nonneg q.num (b := q.den) (by omega)
  have h2 := Int.emod_lt_of_pos q.num (b := q.den) (by omega)
  omega
set_option maxHeartbeats 2000000 in
set_option maxRecDepth 100000 in
theorem rRound_w1 {l l' : List UInt8} {q : Rat} {k : Nat} (h : IsQ l l' q) (b : Bd k q) (hk : k ≤ 90000) (m : Int) (hm : m = 1) (h0 : q.num % q.den = 0) : Ret 48 #[(Value.agg #[Value.string ⟨List.toArray l⟩, Value.string ⟨List.toArray l'⟩]), .int .i64 m] (.tuple #[.string ⟨(canon (rnd q m)).toArray⟩, .int .i64 0]) := fun w hG => by
  have c1 := rParts h
  have hbq := b
  have hd0 : (q.den : Int) ≠ 0 := by have := q.den_nz; omega
  have hfl := Nat.lt_of_le_of_lt (fl_abs q) b.1
  have hmd := Nat.lt_trans (mod_abs q) b.2
  have hde : (q.den : Int).natAbs < 10 ^ k := by rw [Int.natAbs_natCast]; exact b.2
  have hrr : (q.num % q.den + q.num % q.den).natAbs < 10 ^ (k + 1) := by rw [Nat.pow_succ]; omega
  have c2 := riDiv (l := fN q) (l' := canon q.den) (by have := (bd_len b).1; omega) (canon_len_of hde (by omega)) (by rw [val_canon]; exact hd0) (show divZ (val (fN q)) (val (canon q.den)) = q.floor by rw [val_fN, val_canon, div_den]) (show modZ (val (fN q)) (val (canon q.den)) = q.num % q.den by rw [val_fN, val_canon, mod_den])
  have c3 := riAdd (l := canon q.floor) (l' := [49]) (canon_len_of hfl (by omega)) (by decide) (show val (canon q.floor) + val [49] = q.floor + 1 by rw [val_canon]; rfl)
  have c4 := riCompare (l := fN q) (l' := []) (by have := (bd_len b).1; omega) (by decide) (show cmpZ (val (fN q)) (val []) = cmpZ q.num 0 by rw [val_fN]; rfl)
  have c5 := riAdd (l := canon (q.num % q.den)) (l' := canon (q.num % q.den)) (canon_len_of hmd (by omega)) (canon_len_of hmd (by omega)) (show val (canon (q.num % q.den)) + val (canon (q.num % q.den)) = q.num % q.den + q.num % q.den by rw [val_canon])
  have c6 := riCompare (l := canon (q.num % q.den + q.num % q.den)) (l' := canon q.den) (canon_len_of hrr (by omega)) (canon_len_of hde (by omega)) (show cmpZ (val (canon (q.num % q.den + q.num % q.den))) (val (canon q.den)) = halfC q by rw [val_canon, val_canon]; exact (rndF q).ec)
  have cE := dEven (l := canon q.floor) (canon_len_of hfl (by omega)) (val_canon q.floor)
  have hf := rndF q
  have hsf0 := sgn_fl q
  have x2 := FBox.new w (.string ⟨l.toArray⟩) (.string ⟨l'.toArray⟩) 32
  have hb := below_alloc w (.cells #[.string ⟨l.toArray⟩, .string ⟨l'.toArray⟩] 32)
  clear hbq hd0 hfl hmd hde hrr
  generalize q.floor = fl at *
  generalize q.num % q.den = r at *
  generalize halfC q = c at *
  generalize cmpZ q.num 0 = s at *
  have C1 := Lib.hid c1
  have C2 := Lib.hid c2
  have C3 := Lib.hid c3
  have C4 := Lib.hid c4
  have C5 := Lib.hid c5
  have C6 := Lib.hid c6
  have HE := Lib.hid cE
  have HF := Lib.hid hf
  have hsf := Lib.hid hsf0
  clear c1 c2 c3 c4 c5 c6 cE hf b h hsf0
  obtain ⟨e1, e2⟩ := str_nil h0
  have hr := Lib.hid h0
  clear h0 hk
  go_enter Tryz.func48, Tryz.ntmps48
  have qx2_0 := x2.c0
  have qx2_1 := x2.c1
  go_wp2_with fail
  ((with_reducible refine (C1.out.of hG hb).mono ?_); rintro e w2 ⟨rfl, hb2⟩)
  clear qx2_0 qx2_1
  replace x2 := x2.below hb2
  replace hb := bto hb hb2
  clear hb2
  go_wp2_with fail
  ((with_reducible refine (C2.out.of hG hb).mono ?_); rintro e w3 ⟨rfl, hb3⟩)
  replace x2 := x2.below hb3
  replace hb := bto hb hb3
  clear hb3
  go_wp2_with fail
  ((with_reducible refine (C4.out.of hG hb).mono ?_); rintro e w4 ⟨rfl, hb4⟩)
  replace x2 := x2.below hb4
  replace hb := bto hb hb4
  clear hb4
  go_wp2_with fail
  ((with_reducible refine (C5.out.of hG hb).mono ?_); rintro e w5 ⟨rfl, hb5⟩)
  replace x2 := x2.below hb5
  replace hb := bto hb hb5
  clear hb5
  go_wp2_with fail
  ((with_reducible refine (C6.out.of hG hb).mono ?_); rintro e w6 ⟨rfl, hb6⟩)
  replace x2 := x2.below hb6
  replace hb := bto hb hb6
  clear hb6
  clear x2
  clear e1 e2
  subst hm
  by_cases g1 : 0 < c
  · have g1' : decide (0 < c) = true := decide_eq_true g1
    have HR := Lib.hid (rnd_whole HF.out hr.out 1)
    clear HF hsf hr
    go_wp2
    go_ret2
    exact ⟨by rw [HR.out]; first | done | rfl, hb⟩
  have g1' : decide (0 < c) = false := decide_eq_false g1
  by_cases g2 : c = 0
  rotate_left
  · have g2' : (c == 0) = false := by rw [beq_eq_false_iff_ne]; exact g2
    have HR := Lib.hid (rnd_whole HF.out hr.out 1)
    clear HF hsf hr
    go_wp2
    go_ret2
    exact ⟨by rw [HR.out]; first | done | rfl, hb⟩
  have g2' : (c == 0) = true := by rw [beq_iff_eq]; exact g2
  by_cases g3 : fl % 2 = 0
  · have g3' : decide (fl % 2 = 0) = true := decide_eq_true g3
    have HR := Lib.hid (rnd_whole HF.out hr.out 1)
    clear HF hsf hr
    go_wp2_with fail
    ((with_reducible refine (HE.out.of hG hb).mono ?_); rintro e w9 ⟨rfl, hb9⟩)
    replace hb := bto hb hb9
    rw [g3']
    go_wp2
    go_ret2
    exact ⟨by rw [HR.out]; first | done | rfl, hb⟩
  · have g3' : decide (fl % 2 = 0) = false := decide_eq_false g3
    have HR := Lib.hid (rnd_whole HF.out hr.out 1)
    clear HF hsf hr
    go_wp2_with fail
    ((with_reducible refine (HE.out.of hG hb).mono ?_); rintro e w9 ⟨rfl, hb9⟩)
    replace hb := bto hb hb9
    rw [g3']
    go_wp2
    go_ret2
    exact ⟨by rw [HR.out]; first | done | rfl, hb⟩
set_option maxHeartbeats 2000000 in
set_option maxRecDepth 100000 in
theorem rRound_w2 {l l' : List UInt8} {q : Rat} {k : Nat} (h : IsQ l l' q) (b : Bd k q) (hk : k ≤ 90000) (m : Int) (hm : m = 2) (h0 : q.num % q.den = 0) : Ret 48 #[(Value.agg #[Value.string ⟨List.toArray l⟩, Value.string ⟨List.toArray l'⟩]), .int .i64 m] (.tuple #[.string ⟨(canon (rnd q m)).toArray⟩, .int .i64 0]) := fun w hG => by
  have c1 := rParts h
  have hbq := b
  have hd0 : (q.den : Int) ≠ 0 := by have := q.den_nz; omega
  have hfl := Nat.lt_of_le_of_lt (fl_abs q) b.1
  have hmd := Nat.lt_trans (mod_abs q) b.2
  have hde : (q.den : Int).natAbs < 10 ^ k := by rw [Int.natAbs_natCast]; exact b.2
  have hrr : (q.num % q.den + q.num % q.den).natAbs < 10 ^ (k + 1) := by rw [Nat.pow_succ]; omega
  have c2 := riDiv (l := fN q) (l' := canon q.den) (by have := (bd_len b).1; omega) (canon_len_of hde (by omega)) (by rw [val_canon]; exact hd0) (show divZ (val (fN q)) (val (canon q.den)) = q.floor by rw [val_fN, val_canon, div_den]) (show modZ (val (fN q)) (val (canon q.den)) = q.num % q.den by rw [val_fN, val_canon, mod_den])
  have c3 := riAdd (l := canon q.floor) (l' := [49]) (canon_len_of hfl (by omega)) (by decide) (show val (canon q.floor) + val [49] = q.floor + 1 by rw [val_canon]; rfl)
  have c4 := riCompare (l := fN q) (l' := []) (by have := (bd_len b).1; omega) (by decide) (show cmpZ (val (fN q)) (val []) = cmpZ q.num 0 by rw [val_fN]; rfl)
  have c5 := riAdd (l := canon (q.num % q.den)) (l' := canon (q.num % q.den)) (canon_len_of hmd (by omega)) (canon_len_of hmd (by omega)) (show val (canon (q.num % q.den)) + val (canon (q.num % q.den)) = q.num % q.den + q.num % q.den by rw [val_canon])
  have c6 := riCompare (l := canon (q.num % q.den + q.num % q.den)) (l' := canon q.den) (canon_len_of hrr (by omega)) (canon_len_of hde (by omega)) (show cmpZ (val (canon (q.num % q.den + q.num % q.den))) (val (canon q.den)) = halfC q by rw [val_canon, val_canon]; exact (rndF q).ec)
  have cE := dEven (l := canon q.floor) (canon_len_of hfl (by omega)) (val_canon q.floor)
  have hf := rndF q
  have hsf0 := sgn_fl q
  have x2 := FBox.new w (.string ⟨l.toArray⟩) (.string ⟨l'.toArray⟩) 32
  have hb := below_alloc w (.cells #[.string ⟨l.toArray⟩, .string ⟨l'.toArray⟩] 32)
  clear hbq hd0 hfl hmd hde hrr
  generalize q.floor = fl at *
  generalize q.num % q.den = r at *
  generalize halfC q = c at *
  generalize cmpZ q.num 0 = s at *
  have C1 := Lib.hid c1
  have C2 := Lib.hid c2
  have C3 := Lib.hid c3
  have C4 := Lib.hid c4
  have C5 := Lib.hid c5
  have C6 := Lib.hid c6
  have HE := Lib.hid cE
  have HF := Lib.hid hf
  have hsf := Lib.hid hsf0
  clear c1 c2 c3 c4 c5 c6 cE hf b h hsf0
  obtain ⟨e1, e2⟩ := str_nil h0
  have hr := Lib.hid h0
  clear h0 hk
  go_enter Tryz.func48, Tryz.ntmps48
  have qx2_0 := x2.c0
  have qx2_1 := x2.c1
  go_wp2_with fail
  ((with_reducible refine (C1.out.of hG hb).mono ?_); rintro e w2 ⟨rfl, hb2⟩)
  clear qx2_0 qx2_1
  replace x2 := x2.below hb2
  replace hb := bto hb hb2
  clear hb2
  go_wp2_with fail
  ((with_reducible refine (C2.out.of hG hb).mono ?_); rintro e w3 ⟨rfl, hb3⟩)
  replace x2 := x2.below hb3
  replace hb := bto hb hb3
  clear hb3
  go_wp2_with fail
  ((with_reducible refine (C4.out.of hG hb).mono ?_); rintro e w4 ⟨rfl, hb4⟩)
  replace x2 := x2.below hb4
  replace hb := bto hb hb4
  clear hb4
  go_wp2_with fail
  ((with_reducible refine (C5.out.of hG hb).mono ?_); rintro e w5 ⟨rfl, hb5⟩)
  replace x2 := x2.below hb5
  replace hb := bto hb hb5
  clear hb5
  go_wp2_with fail
  ((with_reducible refine (C6.out.of hG hb).mono ?_); rintro e w6 ⟨rfl, hb6⟩)
  replace x2 := x2.below hb6
  replace hb := bto hb hb6
  clear hb6
  clear x2
  clear e1 e2
  subst hm
  by_cases g1 : 0 < c
  · have g1' : decide (0 < c) = true := decide_eq_true g1
    have HR := Lib.hid (rnd_whole HF.out hr.out 2)
    clear HF hsf hr
    go_wp2
    go_ret2
    exact ⟨by rw [HR.out]; first | done | rfl, hb⟩
  have g1' : decide (0 < c) = false := decide_eq_false g1
  by_cases g2 : c = 0
  rotate_left
  · have g2' : (c == 0) = false := by rw [beq_eq_false_iff_ne]; exact g2
    have HR := Lib.hid (rnd_whole HF.out hr.out 2)
    clear HF hsf hr
    go_wp2
    go_ret2
    exact ⟨by rw [HR.out]; first | done | rfl, hb⟩
  have g2' : (c == 0) = true := by rw [beq_iff_eq]; exact g2
  by_cases g3 : s < 0
  · have g3' : decide (s < 0) = true := decide_eq_true g3
    have g4 := hsf.out.1 g3
    have HR := Lib.hid (rnd_whole HF.out hr.out 2)
    clear HF hsf hr
    go_wp2
    go_ret2
    exact ⟨by rw [HR.out]; first | done | rfl, hb⟩
  · have g3' : decide (s < 0) = false := decide_eq_false g3
    have g4 : 0 ≤ fl := Int.not_lt.1 (fun h => g3 (hsf.out.2 h))
    have HR := Lib.hid (rnd_whole HF.out hr.out 2)
    clear HF hsf hr
    go_wp2
    go_ret2
    exact ⟨by rw [HR.out]; first | done | rfl, hb⟩
set_option maxHeartbeats 2000000 in
set_option maxRecDepth 100000 in
theorem rRound_w3 {l l' : List UInt8} {q : Rat} {k : Nat} (h : IsQ l l' q) (b : Bd k q) (hk : k ≤ 90000) (m : Int) (hm : m = 3 ∨ m = 4 ∨ m = 5 ∨ m = 6) (h0 : q.num % q.den = 0) : Ret 48 #[(Value.agg #[Value.string ⟨List.toArray l⟩, Value.string ⟨List.toArray l'⟩]), .int .i64 m] (.tuple #[.string ⟨(canon (rnd q m)).toArray⟩, .int .i64 0]) := fun w hG => by
  have c1 := rParts h
  have hbq := b
  have hd0 : (q.den : Int) ≠ 0 := by have := q.den_nz; omega
  have hfl := Nat.lt_of_le_of_lt (fl_abs q) b.1
  have hmd := Nat.lt_trans (mod_abs q) b.2
  have hde : (q.den : Int).natAbs < 10 ^ k := by rw [Int.natAbs_natCast]; exact b.2
  have hrr : (q.num % q.den + q.num % q.den).natAbs < 10 ^ (k + 1) := by rw [Nat.pow_succ]; omega
  have c2 := riDiv (l := fN q) (l' := canon q.den) (by have := (bd_len b).1; omega) (canon_len_of hde (by omega)) (by rw [val_canon]; exact hd0) (show divZ (val (fN q)) (val (canon q.den)) = q.floor by rw [val_fN, val_canon, div_den]) (show modZ (val (fN q)) (val (canon q.den)) = q.num % q.den by rw [val_fN, val_canon, mod_den])
  have c3 := riAdd (l := canon q.floor) (l' := [49]) (canon_len_of hfl (by omega)) (by decide) (show val (canon q.floor) + val [49] = q.floor + 1 by rw [val_canon]; rfl)
  have c4 := riCompare (l := fN q) (l' := []) (by have := (bd_len b).1; omega) (by decide) (show cmpZ (val (fN q)) (val []) = cmpZ q.num 0 by rw [val_fN]; rfl)
  have c5 := riAdd (l := canon (q.num % q.den)) (l' := canon (q.num % q.den)) (canon_len_of hmd (by omega)) (canon_len_of hmd (by omega)) (show val (canon (q.num % q.den)) + val (canon (q.num % q.den)) = q.num % q.den + q.num % q.den by rw [val_canon])
  have c6 := riCompare (l := canon (q.num % q.den + q.num % q.den)) (l' := canon q.den) (canon_len_of hrr (by omega)) (canon_len_of hde (by omega)) (show cmpZ (val (canon (q.num % q.den + q.num % q.den))) (val (canon q.den)) = halfC q by rw [val_canon, val_canon]; exact (rndF q).ec)
  have cE := dEven (l := canon q.floor) (canon_len_of hfl (by omega)) (val_canon q.floor)
  have hf := rndF q
  have hsf0 := sgn_fl q
  have x2 := FBox.new w (.string ⟨l.toArray⟩) (.string ⟨l'.toArray⟩) 32
  have hb := below_alloc w (.cells #[.string ⟨l.toArray⟩, .string ⟨l'.toArray⟩] 32)
  clear hbq hd0 hfl hmd hde hrr
  generalize q.floor = fl at *
  generalize q.num % q.den = r at *
  generalize halfC q = c at *
  generalize cmpZ q.num 0 = s at *
  have C1 := Lib.hid c1
  have C2 := Lib.hid c2
  have C3 := Lib.hid c3
  have C4 := Lib.hid c4
  have C5 := Lib.hid c5
  have C6 := Lib.hid c6
  have HE := Lib.hid cE
  have HF := Lib.hid hf
  have hsf := Lib.hid hsf0
  clear c1 c2 c3 c4 c5 c6 cE hf b h hsf0
  obtain ⟨e1, e2⟩ := str_nil h0
  have hr := Lib.hid h0
  clear h0 hk
  go_enter Tryz.func48, Tryz.ntmps48
  have qx2_0 := x2.c0
  have qx2_1 := x2.c1
  go_wp2_with fail
  ((with_reducible refine (C1.out.of hG hb).mono ?_); rintro e w2 ⟨rfl, hb2⟩)
  clear qx2_0 qx2_1
  replace x2 := x2.below hb2
  replace hb := bto hb hb2
  clear hb2
  go_wp2_with fail
  ((with_reducible refine (C2.out.of hG hb).mono ?_); rintro e w3 ⟨rfl, hb3⟩)
  replace x2 := x2.below hb3
  replace hb := bto hb hb3
  clear hb3
  go_wp2_with fail
  ((with_reducible refine (C4.out.of hG hb).mono ?_); rintro e w4 ⟨rfl, hb4⟩)
  replace x2 := x2.below hb4
  replace hb := bto hb hb4
  clear hb4
  go_wp2_with fail
  ((with_reducible refine (C5.out.of hG hb).mono ?_); rintro e w5 ⟨rfl, hb5⟩)
  replace x2 := x2.below hb5
  replace hb := bto hb hb5
  clear hb5
  go_wp2_with fail
  ((with_reducible refine (C6.out.of hG hb).mono ?_); rintro e w6 ⟨rfl, hb6⟩)
  replace x2 := x2.below hb6
  replace hb := bto hb hb6
  clear hb6
  clear x2
  clear e1 e2
  rcases hm with rfl | rfl | rfl | rfl
  · by_cases g3 : s < 0
    · have g3' : decide (s < 0) = true := decide_eq_true g3
      have g4 := hsf.out.1 g3
      have HR := Lib.hid (rnd_whole HF.out hr.out 3)
      clear HF hsf hr
      go_wp2
      go_ret2
      exact ⟨by rw [HR.out]; first | done | rfl, hb⟩
    · have g3' : decide (s < 0) = false := decide_eq_false g3
      have g4 : 0 ≤ fl := Int.not_lt.1 (fun h => g3 (hsf.out.2 h))
      have HR := Lib.hid (rnd_whole HF.out hr.out 3)
      clear HF hsf hr
      go_wp2
      go_ret2
      exact ⟨by rw [HR.out]; first | done | rfl, hb⟩
  · by_cases g3 : s < 0
    · have g3' : decide (s < 0) = true := decide_eq_true g3
      have g4 := hsf.out.1 g3
      have HR := Lib.hid (rnd_whole HF.out hr.out 4)
      clear HF hsf hr
      go_wp2
      go_ret2
      exact ⟨by rw [HR.out]; first | done | rfl, hb⟩
    · have g3' : decide (s < 0) = false := decide_eq_false g3
      have g4 : 0 ≤ fl := Int.not_lt.1 (fun h => g3 (hsf.out.2 h))
      have HR := Lib.hid (rnd_whole HF.out hr.out 4)
      clear HF hsf hr
      go_wp2
      go_ret2
      exact ⟨by rw [HR.out]; first | done | rfl, hb⟩
  · have HR := Lib.hid (rnd_whole HF.out hr.out 5)
    clear HF hsf hr
    go_wp2
    go_ret2
    exact ⟨by rw [HR.out]; first | done | rfl, hb⟩
  · have HR := Lib.hid (rnd_whole HF.out hr.out 6)
    clear HF hsf hr
    go_wp2
    go_ret2
    exact ⟨by rw [HR.out]; first | done | rfl, hb⟩
set_option maxHeartbeats 2000000 in
set_option maxRecDepth 100000 in
theorem rRound_r1 {l l' : List UInt8} {q : Rat} {k : Nat} (h : IsQ l l' q) (b : Bd k q) (hk : k ≤ 90000) (m : Int) (hm : m = 1) (h0 : q.num % q.den ≠ 0) : Ret 48 #[(Value.agg #[Value.string ⟨List.toArray l⟩, Value.string ⟨List.toArray l'⟩]), .int .i64 m] (.tuple #[.string ⟨(canon (rnd q m)).toArray⟩, .int .i64 0]) := fun w hG => by
  have c1 := rParts h
  have hbq := b
  have hd0 : (q.den : Int) ≠ 0 := by have := q.den_nz; omega
  have hfl := Nat.lt_of_le_of_lt (fl_abs q) b.1
  have hmd := Nat.lt_trans (mod_abs q) b.2
  have hde : (q.den : Int).natAbs < 10 ^ k := by rw [Int.natAbs_natCast]; exact b.2
  have hrr : (q.num % q.den + q.num % q.den).natAbs < 10 ^ (k + 1) := by rw [Nat.pow_succ]; omega
  have c2 := riDiv (l := fN q) (l' := canon q.den) (by have := (bd_len b).1; omega) (canon_len_of hde (by omega)) (by rw [val_canon]; exact hd0) (show divZ (val (fN q)) (val (canon q.den)) = q.floor by rw [val_fN, val_canon, div_den]) (show modZ (val (fN q)) (val (canon q.den)) = q.num % q.den by rw [val_fN, val_canon, mod_den])
  have c3 := riAdd (l := canon q.floor) (l' := [49]) (canon_len_of hfl (by omega)) (by decide) (show val (canon q.floor) + val [49] = q.floor + 1 by rw [val_canon]; rfl)
  have c4 := riCompare (l := fN q) (l' := []) (by have := (bd_len b).1; omega) (by decide) (show cmpZ (val (fN q)) (val []) = cmpZ q.num 0 by rw [val_fN]; rfl)
  have c5 := riAdd (l := canon (q.num % q.den)) (l' := canon (q.num % q.den)) (canon_len_of hmd (by omega)) (canon_len_of hmd (by omega)) (show val (canon (q.num % q.den)) + val (canon (q.num % q.den)) = q.num % q.den + q.num % q.den by rw [val_canon])
  have c6 := riCompare (l := canon (q.num % q.den + q.num % q.den)) (l' := canon q.den) (canon_len_of hrr (by omega)) (canon_len_of hde (by omega)) (show cmpZ (val (canon (q.num % q.den + q.num % q.den))) (val (canon q.den)) = halfC q by rw [val_canon, val_canon]; exact (rndF q).ec)
  have cE := dEven (l := canon q.floor) (canon_len_of hfl (by omega)) (val_canon q.floor)
  have hf := rndF q
  have hsf0 := sgn_fl q
  have x2 := FBox.new w (.string ⟨l.toArray⟩) (.string ⟨l'.toArray⟩) 32
  have hb := below_alloc w (.cells #[.string ⟨l.toArray⟩, .string ⟨l'.toArray⟩] 32)
  clear hbq hd0 hfl hmd hde hrr
  generalize q.floor = fl at *
  generalize q.num % q.den = r at *
  generalize halfC q = c at *
  generalize cmpZ q.num 0 = s at *
  have C1 := Lib.hid c1
  have C2 := Lib.hid c2
  have C3 := Lib.hid c3
  have C4 := Lib.hid c4
  have C5 := Lib.hid c5
  have C6 := Lib.hid c6
  have HE := Lib.hid cE
  have HF := Lib.hid hf
  have hsf := Lib.hid hsf0
  clear c1 c2 c3 c4 c5 c6 cE hf b h hsf0
  obtain ⟨e1, e2⟩ := str_ne h0
  have hr := Lib.hid h0
  clear h0 hk
  go_enter Tryz.func48, Tryz.ntmps48
  have qx2_0 := x2.c0
  have qx2_1 := x2.c1
  go_wp2_with fail
  ((with_reducible refine (C1.out.of hG hb).mono ?_); rintro e w2 ⟨rfl, hb2⟩)
  clear qx2_0 qx2_1
  replace x2 := x2.below hb2
  replace hb := bto hb hb2
  clear hb2
  go_wp2_with fail
  ((with_reducible refine (C2.out.of hG hb).mono ?_); rintro e w3 ⟨rfl, hb3⟩)
  replace x2 := x2.below hb3
  replace hb := bto hb hb3
  clear hb3
  go_wp2_with fail
  ((with_reducible refine (C3.out.of hG hb).mono ?_); rintro e w4 ⟨rfl, hb4⟩)
  replace x2 := x2.below hb4
  replace hb := bto hb hb4
  clear hb4
  go_wp2_with fail
  ((with_reducible refine (C4.out.of hG hb).mono ?_); rintro e w5 ⟨rfl, hb5⟩)
  replace x2 := x2.below hb5
  replace hb := bto hb hb5
  clear hb5
  go_wp2_with fail
  ((with_reducible refine (C5.out.of hG hb).mono ?_); rintro e w6 ⟨rfl, hb6⟩)
  replace x2 := x2.below hb6
  replace hb := bto hb hb6
  clear hb6
  go_wp2_with fail
  ((with_reducible refine (C6.out.of hG hb).mono ?_); rintro e w7 ⟨rfl, hb7⟩)
  replace x2 := x2.below hb7
  replace hb := bto hb hb7
  clear hb7
  clear x2
  clear e1 e2
  subst hm
  by_cases g1 : 0 < c
  · have g1' : decide (0 < c) = true := decide_eq_true g1
    have HR := Lib.hid (rnd_up HF.out hr.out (m := 1) (by simp [upB, g1]))
    clear HF hsf hr
    go_wp2
    go_ret2
    exact ⟨by rw [HR.out]; first | done | rfl, hb⟩
  have g1' : decide (0 < c) = false := decide_eq_false g1
  by_cases g2 : c = 0
  rotate_left
  · have g2' : (c == 0) = false := by rw [beq_eq_false_iff_ne]; exact g2
    have HR := Lib.hid (rnd_dn HF.out hr.out (m := 1) (by simp [upB, g1, g2]))
    clear HF hsf hr
    go_wp2
    go_ret2
    exact ⟨by rw [HR.out]; first | done | rfl, hb⟩
  have g2' : (c == 0) = true := by rw [beq_iff_eq]; exact g2
  by_cases g3 : fl % 2 = 0
  · have g3' : decide (fl % 2 = 0) = true := decide_eq_true g3
    have HR := Lib.hid (rnd_dn HF.out hr.out (m := 1) (by simp [upB, g1, g3]))
    clear HF hsf hr
    go_wp2_with fail
    ((with_reducible refine (HE.out.of hG hb).mono ?_); rintro e w9 ⟨rfl, hb9⟩)
    replace hb := bto hb hb9
    rw [g3']
    go_wp2
    go_ret2
    exact ⟨by rw [HR.out]; first | done | rfl, hb⟩
  · have g3' : decide (fl % 2 = 0) = false := decide_eq_false g3
    have HR := Lib.hid (rnd_up HF.out hr.out (m := 1) (by simp [upB, g2, g3]))
    clear HF hsf hr
    go_wp2_with fail
    ((with_reducible refine (HE.out.of hG hb).mono ?_); rintro e w9 ⟨rfl, hb9⟩)
    replace hb := bto hb hb9
    rw [g3']
    go_wp2
    go_ret2
    exact ⟨by rw [HR.out]; first | done | rfl, hb⟩
set_option maxHeartbeats 2000000 in
set_option maxRecDepth 100000 in
theorem rRound_r2 {l l' : List UInt8} {q : Rat} {k : Nat} (h : IsQ l l' q) (b : Bd k q) (hk : k ≤ 90000) (m : Int) (hm : m = 2) (h0 : q.num % q.den ≠ 0) : Ret 48 #[(Value.agg #[Value.string ⟨List.toArray l⟩, Value.string ⟨List.toArray l'⟩]), .int .i64 m] (.tuple #[.string ⟨(canon (rnd q m)).toArray⟩, .int .i64 0]) := fun w hG => by
  have c1 := rParts h
  have hbq := b
  have hd0 : (q.den : Int) ≠ 0 := by have := q.den_nz; omega
  have hfl := Nat.lt_of_le_of_lt (fl_abs q) b.1
  have hmd := Nat.lt_trans (mod_abs q) b.2
  have hde : (q.den : Int).natAbs < 10 ^ k := by rw [Int.natAbs_natCast]; exact b.2
  have hrr : (q.num % q.den + q.num % q.den).natAbs < 10 ^ (k + 1) := by rw [Nat.pow_succ]; omega
  have c2 := riDiv (l := fN q) (l' := canon q.den) (by have := (bd_len b).1; omega) (canon_len_of hde (by omega)) (by rw [val_canon]; exact hd0) (show divZ (val (fN q)) (val (canon q.den)) = q.floor by rw [val_fN, val_canon, div_den]) (show modZ (val (fN q)) (val (canon q.den)) = q.num % q.den by rw [val_fN, val_canon, mod_den])
  have c3 := riAdd (l := canon q.floor) (l' := [49]) (canon_len_of hfl (by omega)) (by decide) (show val (canon q.floor) + val [49] = q.floor + 1 by rw [val_canon]; rfl)
  have c4 := riCompare (l := fN q) (l' := []) (by have := (bd_len b).1; omega) (by decide) (show cmpZ (val (fN q)) (val []) = cmpZ q.num 0 by rw [val_fN]; rfl)
  have c5 := riAdd (l := canon (q.num % q.den)) (l' := canon (q.num % q.den)) (canon_len_of hmd (by omega)) (canon_len_of hmd (by omega)) (show val (canon (q.num % q.den)) + val (canon (q.num % q.den)) = q.num % q.den + q.num % q.den by rw [val_canon])
  have c6 := riCompare (l := canon (q.num % q.den + q.num % q.den)) (l' := canon q.den) (canon_len_of hrr (by omega)) (canon_len_of hde (by omega)) (show cmpZ (val (canon (q.num % q.den + q.num % q.den))) (val (canon q.den)) = halfC q by rw [val_canon, val_canon]; exact (rndF q).ec)
  have cE := dEven (l := canon q.floor) (canon_len_of hfl (by omega)) (val_canon q.floor)
  have hf := rndF q
  have hsf0 := sgn_fl q
  have x2 := FBox.new w (.string ⟨l.toArray⟩) (.string ⟨l'.toArray⟩) 32
  have hb := below_alloc w (.cells #[.string ⟨l.toArray⟩, .string ⟨l'.toArray⟩] 32)
  clear hbq hd0 hfl hmd hde hrr
  generalize q.floor = fl at *
  generalize q.num % q.den = r at *
  generalize halfC q = c at *
  generalize cmpZ q.num 0 = s at *
  have C1 := Lib.hid c1
  have C2 := Lib.hid c2
  have C3 := Lib.hid c3
  have C4 := Lib.hid c4
  have C5 := Lib.hid c5
  have C6 := Lib.hid c6
  have HE := Lib.hid cE
  have HF := Lib.hid hf
  have hsf := Lib.hid hsf0
  clear c1 c2 c3 c4 c5 c6 cE hf b h hsf0
  obtain ⟨e1, e2⟩ := str_ne h0
  have hr := Lib.hid h0
  clear h0 hk
  go_enter Tryz.func48, Tryz.ntmps48
  have qx2_0 := x2.c0
  have qx2_1 := x2.c1
  go_wp2_with fail
  ((with_reducible refine (C1.out.of hG hb).mono ?_); rintro e w2 ⟨rfl, hb2⟩)
  clear qx2_0 qx2_1
  replace x2 := x2.below hb2
  replace hb := bto hb hb2
  clear hb2
  go_wp2_with fail
  ((with_reducible refine (C2.out.of hG hb).mono ?_); rintro e w3 ⟨rfl, hb3⟩)
  replace x2 := x2.below hb3
  replace hb := bto hb hb3
  clear hb3
  go_wp2_with fail
  ((with_reducible refine (C3.out.of hG hb).mono ?_); rintro e w4 ⟨rfl, hb4⟩)
  replace x2 := x2.below hb4
  replace hb := bto hb hb4
  clear hb4
  go_wp2_with fail
  ((with_reducible refine (C4.out.of hG hb).mono ?_); rintro e w5 ⟨rfl, hb5⟩)
  replace x2 := x2.below hb5
  replace hb := bto hb hb5
  clear hb5
  go_wp2_with fail
  ((with_reducible refine (C5.out.of hG hb).mono ?_); rintro e w6 ⟨rfl, hb6⟩)
  replace x2 := x2.below hb6
  replace hb := bto hb hb6
  clear hb6
  go_wp2_with fail
  ((with_reducible refine (C6.out.of hG hb).mono ?_); rintro e w7 ⟨rfl, hb7⟩)
  replace x2 := x2.below hb7
  replace hb := bto hb hb7
  clear hb7
  clear x2
  clear e1 e2
  subst hm
  by_cases g1 : 0 < c
  · have g1' : decide (0 < c) = true := decide_eq_true g1
    have HR := Lib.hid (rnd_up HF.out hr.out (m := 2) (by simp [upB, g1]))
    clear HF hsf hr
    go_wp2
    go_ret2
    exact ⟨by rw [HR.out]; first | done | rfl, hb⟩
  have g1' : decide (0 < c) = false := decide_eq_false g1
  by_cases g2 : c = 0
  rotate_left
  · have g2' : (c == 0) = false := by rw [beq_eq_false_iff_ne]; exact g2
    have HR := Lib.hid (rnd_dn HF.out hr.out (m := 2) (by simp [upB, g1, g2]))
    clear HF hsf hr
    go_wp2
    go_ret2
    exact ⟨by rw [HR.out]; first | done | rfl, hb⟩
  have g2' : (c == 0) = true := by rw [beq_iff_eq]; exact g2
  by_cases g3 : s < 0
  · have g3' : decide (s < 0) = true := decide_eq_true g3
    have g4 := hsf.out.1 g3
    have HR := Lib.hid (rnd_dn HF.out hr.out (m := 2) (by simp [upB, g1]; first | omega | (intro _; omega)))
    clear HF hsf hr
    go_wp2
    go_ret2
    exact ⟨by rw [HR.out]; first | done | rfl, hb⟩
  · have g3' : decide (s < 0) = false := decide_eq_false g3
    have g4 : 0 ≤ fl := Int.not_lt.1 (fun h => g3 (hsf.out.2 h))
    have HR := Lib.hid (rnd_up HF.out hr.out (m := 2) (by simp [upB, g2, g4]))
    clear HF hsf hr
    go_wp2
    go_ret2
    exact ⟨by rw [HR.out]; first | done | rfl, hb⟩
set_option maxHeartbeats 2000000 in
set_option maxRecDepth 100000 in
theorem rRound_r3 {l l' : List UInt8} {q : Rat} {k : Nat} (h : IsQ l l' q) (b : Bd k q) (hk : k ≤ 90000) (m : Int) (hm : m = 3 ∨ m = 4 ∨ m = 5 ∨ m = 6) (h0 : q.num % q.den ≠ 0) : Ret 48 #[(Value.agg #[Value.string ⟨List.toArray l⟩, Value.string ⟨List.toArray l'⟩]), .int .i64 m] (.tuple #[.string ⟨(canon (rnd q m)).toArray⟩, .int .i64 0]) := fun w hG => by
  have c1 := rParts h
  have hbq := b
  have hd0 : (q.den : Int) ≠ 0 := by have := q.den_nz; omega
  have hfl := Nat.lt_of_le_of_lt (fl_abs q) b.1
  have hmd := Nat.lt_trans (mod_abs q) b.2
  have hde : (q.den : Int).natAbs < 10 ^ k := by rw [Int.natAbs_natCast]; exact b.2
  have hrr : (q.num % q.den + q.num % q.den).natAbs < 10 ^ (k + 1) := by rw [Nat.pow_succ]; omega
  have c2 := riDiv (l := fN q) (l' := canon q.den) (by have := (bd_len b).1; omega) (canon_len_of hde (by omega)) (by rw [val_canon]; exact hd0) (show divZ (val (fN q)) (val (canon q.den)) = q.floor by rw [val_fN, val_canon, div_den]) (show modZ (val (fN q)) (val (canon q.den)) = q.num % q.den by rw [val_fN, val_canon, mod_den])
  have c3 := riAdd (l := canon q.floor) (l' := [49]) (canon_len_of hfl (by omega)) (by decide) (show val (canon q.floor) + val [49] = q.floor + 1 by rw [val_canon]; rfl)
  have c4 := riCompare (l := fN q) (l' := []) (by have := (bd_len b).1; omega) (by decide) (show cmpZ (val (fN q)) (val []) = cmpZ q.num 0 by rw [val_fN]; rfl)
  have c5 := riAdd (l := canon (q.num % q.den)) (l' := canon (q.num % q.den)) (canon_len_of hmd (by omega)) (canon_len_of hmd (by omega)) (show val (canon (q.num % q.den)) + val (canon (q.num % q.den)) = q.num % q.den + q.num % q.den by rw [val_canon])
  have c6 := riCompare (l := canon (q.num % q.den + q.num % q.den)) (l' := canon q.den) (canon_len_of hrr (by omega)) (canon_len_of hde (by omega)) (show cmpZ (val (canon (q.num % q.den + q.num % q.den))) (val (canon q.den)) = halfC q by rw [val_canon, val_canon]; exact (rndF q).ec)
  have cE := dEven (l := canon q.floor) (canon_len_of hfl (by omega)) (val_canon q.floor)
  have hf := rndF q
  have hsf0 := sgn_fl q
  have x2 := FBox.new w (.string ⟨l.toArray⟩) (.string ⟨l'.toArray⟩) 32
  have hb := below_alloc w (.cells #[.string ⟨l.toArray⟩, .string ⟨l'.toArray⟩] 32)
  clear hbq hd0 hfl hmd hde hrr
  generalize q.floor = fl at *
  generalize q.num % q.den = r at *
  generalize halfC q = c at *
  generalize cmpZ q.num 0 = s at *
  have C1 := Lib.hid c1
  have C2 := Lib.hid c2
  have C3 := Lib.hid c3
  have C4 := Lib.hid c4
  have C5 := Lib.hid c5
  have C6 := Lib.hid c6
  have HE := Lib.hid cE
  have HF := Lib.hid hf
  have hsf := Lib.hid hsf0
  clear c1 c2 c3 c4 c5 c6 cE hf b h hsf0
  obtain ⟨e1, e2⟩ := str_ne h0
  have hr := Lib.hid h0
  clear h0 hk
  go_enter Tryz.func48, Tryz.ntmps48
  have qx2_0 := x2.c0
  have qx2_1 := x2.c1
  go_wp2_with fail
  ((with_reducible refine (C1.out.of hG hb).mono ?_); rintro e w2 ⟨rfl, hb2⟩)
  clear qx2_0 qx2_1
  replace x2 := x2.below hb2
  replace hb := bto hb hb2
  clear hb2
  go_wp2_with fail
  ((with_reducible refine (C2.out.of hG hb).mono ?_); rintro e w3 ⟨rfl, hb3⟩)
  replace x2 := x2.below hb3
  replace hb := bto hb hb3
  clear hb3
  go_wp2_with fail
  ((with_reducible refine (C3.out.of hG hb).mono ?_); rintro e w4 ⟨rfl, hb4⟩)
  replace x2 := x2.below hb4
  replace hb := bto hb hb4
  clear hb4
  go_wp2_with fail
  ((with_reducible refine (C4.out.of hG hb).mono ?_); rintro e w5 ⟨rfl, hb5⟩)
  replace x2 := x2.below hb5
  replace hb := bto hb hb5
  clear hb5
  go_wp2_with fail
  ((with_reducible refine (C5.out.of hG hb).mono ?_); rintro e w6 ⟨rfl, hb6⟩)
  replace x2 := x2.below hb6
  replace hb := bto hb hb6
  clear hb6
  go_wp2_with fail
  ((with_reducible refine (C6.out.of hG hb).mono ?_); rintro e w7 ⟨rfl, hb7⟩)
  replace x2 := x2.below hb7
  replace hb := bto hb hb7
  clear hb7
  clear x2
  clear e1 e2
  rcases hm with rfl | rfl | rfl | rfl
  · by_cases g3 : s < 0
    · have g3' : decide (s < 0) = true := decide_eq_true g3
      have g4 := hsf.out.1 g3
      have HR := Lib.hid (rnd_up HF.out hr.out (m := 3) (by simp [upB, g4]))
      clear HF hsf hr
      go_wp2
      go_ret2
      exact ⟨by rw [HR.out]; first | done | rfl, hb⟩
    · have g3' : decide (s < 0) = false := decide_eq_false g3
      have g4 : 0 ≤ fl := Int.not_lt.1 (fun h => g3 (hsf.out.2 h))
      have HR := Lib.hid (rnd_dn HF.out hr.out (m := 3) (by simp [upB]; omega))
      clear HF hsf hr
      go_wp2
      go_ret2
      exact ⟨by rw [HR.out]; first | done | rfl, hb⟩
  · by_cases g3 : s < 0
    · have g3' : decide (s < 0) = true := decide_eq_true g3
      have g4 := hsf.out.1 g3
      have HR := Lib.hid (rnd_dn HF.out hr.out (m := 4) (by simp [upB]; omega))
      clear HF hsf hr
      go_wp2
      go_ret2
      exact ⟨by rw [HR.out]; first | done | rfl, hb⟩
    · have g3' : decide (s < 0) = false := decide_eq_false g3
      have g4 : 0 ≤ fl := Int.not_lt.1 (fun h => g3 (hsf.out.2 h))
      have HR := Lib.hid (rnd_up HF.out hr.out (m := 4) (by simp [upB, g4]))
      clear HF hsf hr
      go_wp2
      go_ret2
      exact ⟨by rw [HR.out]; first | done | rfl, hb⟩
  · have HR := Lib.hid (rnd_dn HF.out hr.out (m := 5) (by simp [upB]))
    clear HF hsf hr
    go_wp2
    go_ret2
    exact ⟨by rw [HR.out]; first | done | rfl, hb⟩
  · have HR := Lib.hid (rnd_up HF.out hr.out (m := 6) (by simp [upB]))
    clear HF hsf hr
    go_wp2
    go_ret2
    exact ⟨by rw [HR.out]; first | done | rfl, hb⟩
theorem rRound {l l' : List UInt8} {q : Rat} {k : Nat} (h : IsQ l l' q) (b : Bd k q) (hk : k ≤ 90000) {m : Int} (h1 : 1 ≤ m) (h6 : m ≤ 6) {z : Int} (e : rnd q m = z) : Ret 48 #[(Value.agg #[Value.string ⟨List.toArray l⟩, Value.string ⟨List.toArray l'⟩]), .int .i64 m] (.tuple #[.string ⟨(canon z).toArray⟩, .int .i64 0]) := by
  subst e
  have hm : m = 1 ∨ m = 2 ∨ (m = 3 ∨ m = 4 ∨ m = 5 ∨ m = 6) := by omega
  by_cases h0 : q.num % q.den = 0
  · rcases hm with hm | hm | hm
    · exact rRound_w1 h b hk m hm h0
    · exact rRound_w2 h b hk m hm h0
    · exact rRound_w3 h b hk m hm h0
  · rcases hm with hm | hm | hm
    · exact rRound_r1 h b hk m hm h0
    · exact rRound_r2 h b hk m hm h0
    · exact rRound_r3 h b hk m hm h0
set_option maxHeartbeats 2000000 in
set_option maxRecDepth 100000 in
theorem rRoundBad {l l' : List UInt8} {q : Rat} {k : Nat} (h : IsQ l l' q) (b : Bd k q) (hk : k ≤ 90000) {m : Int} (hm : m < 1 ∨ 6 < m) : Ret 48 #[(Value.agg #[Value.string ⟨List.toArray l⟩, Value.string ⟨List.toArray l'⟩]), .int .i64 m] (.tuple #[.string ⟨#[]⟩, .int .i64 7]) := fun w hG => by
  have c1 := rParts h
  have hbq := b
  have hd0 : (q.den : Int) ≠ 0 := by have := q.den_nz; omega
  have hfl := Nat.lt_of_le_of_lt (fl_abs q) b.1
  have hmd := Nat.lt_trans (mod_abs q) b.2
  have hde : (q.den : Int).natAbs < 10 ^ k := by rw [Int.natAbs_natCast]; exact b.2
  have hrr : (q.num % q.den + q.num % q.den).natAbs < 10 ^ (k + 1) := by rw [Nat.pow_succ]; omega
  have c2 := riDiv (l := fN q) (l' := canon q.den) (by have := (bd_len b).1; omega) (canon_len_of hde (by omega)) (by rw [val_canon]; exact hd0) (show divZ (val (fN q)) (val (canon q.den)) = q.floor by rw [val_fN, val_canon, div_den]) (show modZ (val (fN q)) (val (canon q.den)) = q.num % q.den by rw [val_fN, val_canon, mod_den])
  have c3 := riAdd (l := canon q.floor) (l' := [49]) (canon_len_of hfl (by omega)) (by decide) (show val (canon q.floor) + val [49] = q.floor + 1 by rw [val_canon]; rfl)
  have c4 := riCompare (l := fN q) (l' := []) (by have := (bd_len b).1; omega) (by decide) (show cmpZ (val (fN q)) (val []) = cmpZ q.num 0 by rw [val_fN]; rfl)
  have c5 := riAdd (l := canon (q.num % q.den)) (l' := canon (q.num % q.den)) (canon_len_of hmd (by omega)) (canon_len_of hmd (by omega)) (show val (canon (q.num % q.den)) + val (canon (q.num % q.den)) = q.num % q.den + q.num % q.den by rw [val_canon])
  have c6 := riCompare (l := canon (q.num % q.den + q.num % q.den)) (l' := canon q.den) (canon_len_of hrr (by omega)) (canon_len_of hde (by omega)) (show cmpZ (val (canon (q.num % q.den + q.num % q.den))) (val (canon q.den)) = halfC q by rw [val_canon, val_canon]; exact (rndF q).ec)
  have cE := dEven (l := canon q.floor) (canon_len_of hfl (by omega)) (val_canon q.floor)
  have hf := rndF q
  have hsf0 := sgn_fl q
  have x2 := FBox.new w (.string ⟨l.toArray⟩) (.string ⟨l'.toArray⟩) 32
  have hb := below_alloc w (.cells #[.string ⟨l.toArray⟩, .string ⟨l'.toArray⟩] 32)
  clear hbq hd0 hfl hmd hde hrr
  generalize q.floor = fl at *
  generalize q.num % q.den = r at *
  generalize halfC q = c at *
  generalize cmpZ q.num 0 = s at *
  have C1 := Lib.hid c1
  have C2 := Lib.hid c2
  have C3 := Lib.hid c3
  have C4 := Lib.hid c4
  have C5 := Lib.hid c5
  have C6 := Lib.hid c6
  have HE := Lib.hid cE
  have HF := Lib.hid hf
  have hsf := Lib.hid hsf0
  clear c1 c2 c3 c4 c5 c6 cE hf b h hsf0
  have m1 : (m == 1) = false := by rw [beq_eq_false_iff_ne]; omega
  have m2 : (m == 2) = false := by rw [beq_eq_false_iff_ne]; omega
  have m3 : (m == 3) = false := by rw [beq_eq_false_iff_ne]; omega
  have m4 : (m == 4) = false := by rw [beq_eq_false_iff_ne]; omega
  have m5 : (m == 5) = false := by rw [beq_eq_false_iff_ne]; omega
  have m6 : (m == 6) = false := by rw [beq_eq_false_iff_ne]; omega
  clear hm hsf HF hk HE
  go_enter Tryz.func48, Tryz.ntmps48
  by_cases h0 : r = 0
  · obtain ⟨e1, e2⟩ := str_nil h0
    clear h0
    have qx2_0 := x2.c0
    have qx2_1 := x2.c1
    go_wp2_with fail
    ((with_reducible refine (C1.out.of hG hb).mono ?_); rintro e w2 ⟨rfl, hb2⟩)
    clear qx2_0 qx2_1
    replace x2 := x2.below hb2
    replace hb := bto hb hb2
    clear hb2
    go_wp2_with fail
    ((with_reducible refine (C2.out.of hG hb).mono ?_); rintro e w3 ⟨rfl, hb3⟩)
    replace x2 := x2.below hb3
    replace hb := bto hb hb3
    clear hb3
    go_wp2_with fail
    ((with_reducible refine (C4.out.of hG hb).mono ?_); rintro e w4 ⟨rfl, hb4⟩)
    replace x2 := x2.below hb4
    replace hb := bto hb hb4
    clear hb4
    go_wp2_with fail
    ((with_reducible refine (C5.out.of hG hb).mono ?_); rintro e w5 ⟨rfl, hb5⟩)
    replace x2 := x2.below hb5
    replace hb := bto hb hb5
    clear hb5
    go_wp2_with fail
    ((with_reducible refine (C6.out.of hG hb).mono ?_); rintro e w6 ⟨rfl, hb6⟩)
    replace x2 := x2.below hb6
    replace hb := bto hb hb6
    clear hb6
    clear x2
    go_wp2
    go_ret2
    exact ⟨rfl, hb⟩
  · obtain ⟨e1, e2⟩ := str_ne h0
    clear h0
    have qx2_0 := x2.c0
    have qx2_1 := x2.c1
    go_wp2_with fail
    ((with_reducible refine (C1.out.of hG hb).mono ?_); rintro e w2 ⟨rfl, hb2⟩)
    clear qx2_0 qx2_1
    replace x2 := x2.below hb2
    replace hb := bto hb hb2
    clear hb2
    go_wp2_with fail
    ((with_reducible refine (C2.out.of hG hb).mono ?_); rintro e w3 ⟨rfl, hb3⟩)
    replace x2 := x2.below hb3
    replace hb := bto hb hb3
    clear hb3
    go_wp2_with fail
    ((with_reducible refine (C3.out.of hG hb).mono ?_); rintro e w4 ⟨rfl, hb4⟩)
    replace x2 := x2.below hb4
    replace hb := bto hb hb4
    clear hb4
    go_wp2_with fail
    ((with_reducible refine (C4.out.of hG hb).mono ?_); rintro e w5 ⟨rfl, hb5⟩)
    replace x2 := x2.below hb5
    replace hb := bto hb hb5
    clear hb5
    go_wp2_with fail
    ((with_reducible refine (C5.out.of hG hb).mono ?_); rintro e w6 ⟨rfl, hb6⟩)
    replace x2 := x2.below hb6
    replace hb := bto hb hb6
    clear hb6
    go_wp2_with fail
    ((with_reducible refine (C6.out.of hG hb).mono ?_); rintro e w7 ⟨rfl, hb7⟩)
    replace x2 := x2.below hb7
    replace hb := bto hb hb7
    clear hb7
    clear x2
    go_wp2
    go_ret2
    exact ⟨rfl, hb⟩
end Go.Proofs.YtmmhimgkpfcokaaGreatDoor
