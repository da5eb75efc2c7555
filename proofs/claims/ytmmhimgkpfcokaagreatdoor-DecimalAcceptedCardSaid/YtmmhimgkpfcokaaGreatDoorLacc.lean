/- DecimalAccepted. -/
import Derived.Test.YtmmhimgkpfcokaaGreatDoorLrt
namespace Go.Proofs.YtmmhimgkpfcokaaGreatDoor
open Go.RowKit Num
theorem index_mem (c : UInt8) : ∀ s : List UInt8, 0 ≤ Lib.indexByte s c ↔ c ∈ s
  | [] => by simp [Lib.indexByte]
  | x :: s => by
    have ih := index_mem c s
    have hg := Lib.indexByte_ge s c
    unfold Lib.indexByte
    by_cases h : x = c
    · simp [h]
    · have h1 : (x == c) = false := by rw [beq_eq_false_iff_ne]; exact h
      rw [h1]
      by_cases h2 : Lib.indexByte s c = -1
      · have h3 : c ∉ s := fun hm => by have := ih.2 hm; omega
        simp [h2, h3]; exact fun e => h e.symm
      · have h3 : c ∈ s := ih.1 (by omega)
        have h4 : (Lib.indexByte s c == -1) = false := by rw [beq_eq_false_iff_ne]; exact h2
        rw [h4]; simp [h3]; omega
theorem suffix_last (x : List UInt8) : [(46 : UInt8)].isSuffixOf x = true ↔ x.getLast? = some 46 := by
  rw [List.isSuffixOf_iff_suffix]
  constructor
  · rintro ⟨t, rfl⟩; simp
  · intro h
    obtain ⟨t, rfl⟩ := List.getLast?_eq_some_iff.1 h
    exact ⟨t, rfl⟩
theorem trimT_lib (s : List UInt8) (h : 46 ∈ s) : Lib.trimSuffix (strip s) [46] = trimT s := by
  unfold Lib.trimSuffix Lib.hasSuffix trimT
  rw [if_pos h]
  by_cases h1 : (strip s).getLast? = some 46
  · rw [if_pos ((suffix_last _).2 h1), if_pos h1, List.dropLast_eq_take]; rfl
  · rw [if_neg (fun h2 => h1 ((suffix_last _).1 h2)), if_neg h1]
theorem strip_len (s : List UInt8) : (strip s).length ≤ s.length := by
  unfold strip
  rw [List.length_reverse]
  exact Nat.le_trans (List.dropWhile_sublist _).length_le (by rw [List.length_reverse]; exact Nat.le_refl _)
theorem rContains (s : List UInt8) : Ret 66 #[.string ⟨s.toArray⟩, .string ⟨#[46]⟩] (.bool (decide (46 ∈ s))) := fun w hG => by
  refine (Tryz.strings_Contains_one ⟨s.toArray⟩ 46 w).mono ?_
  rintro e w' ⟨rfl, rfl⟩
  refine ⟨?_, Below.refl _ _⟩
  have : decide (0 ≤ Lib.indexByte s 46) = decide (46 ∈ s) := by rw [decide_eq_decide]; exact index_mem 46 s
  show Ending.returned (.bool (decide (0 ≤ Lib.indexByte s 46))) = _
  rw [this]
theorem rTrimR (s : List UInt8) (hs : s.length ≤ 1000000) : Ret 68 #[.string ⟨s.toArray⟩, .string ⟨#[48]⟩] (.string ⟨(strip s).toArray⟩) := fun w hG => by
  refine (Tryz.strings_TrimRight_one ⟨s.toArray⟩ 48 (by decide) w (by show s.toArray.size ≤ _; simp; omega)).mono ?_
  rintro e w' ⟨rfl, rfl⟩
  exact ⟨rfl, Below.refl _ _⟩
theorem rTrimS (s : List UInt8) (hs : s.length ≤ 1000000) : Ret 67 #[.string ⟨s.toArray⟩, .string ⟨#[46]⟩] (.string ⟨(Lib.trimSuffix s [46]).toArray⟩) := fun w hG => by
  refine (Tryz.strings_TrimSuffix ⟨s.toArray⟩ ⟨#[46]⟩ w (by show s.toArray.size ≤ _; simp; omega)).mono ?_
  rintro e w' ⟨rfl, rfl⟩
  exact ⟨rfl, Below.refl _ _⟩
set_option maxHeartbeats 1000000 in
set_option maxRecDepth 100000 in
theorem wTrim (s : List UInt8) (hs : s.length ≤ 1000000) : Ret 65 #[.string ⟨s.toArray⟩] (.string ⟨(trimT s).toArray⟩) := fun w hG => by
  have C1 := Lib.hid (rContains s)
  have C2 := Lib.hid (rTrimR s hs)
  have c3 := rTrimS (strip s) (Nat.le_trans (strip_len s) hs)
  have hb := Below.refl w.heap.size w
  by_cases h : 46 ∈ s
  · rw [trimT_lib s h] at c3
    rw [decide_eq_true h] at C1
    have C3 := Lib.hid c3
    clear c3 h hs
    generalize strip s = T at *
    generalize trimT s = U at *
    go_enter Tryz.func65, Tryz.ntmps65
    go_wp2_with fail
    ((with_reducible refine (C1.out.of hG hb).mono ?_); rintro e w1 ⟨rfl, hb1⟩)
    replace hb := bto hb hb1
    go_wp2_with fail
    ((with_reducible refine (C2.out.of hG hb).mono ?_); rintro e w2 ⟨rfl, hb2⟩)
    replace hb := bto hb hb2
    go_wp2_with fail
    ((with_reducible refine (C3.out.of hG hb).mono ?_); rintro e w3 ⟨rfl, hb3⟩)
    go_wp2
    go_ret
    exact ⟨rfl, bto hb hb3⟩
  · rw [trimT_plain h]
    rw [decide_eq_false h] at C1
    clear c3 h hs
    go_enter Tryz.func65, Tryz.ntmps65
    go_wp2_with fail
    ((with_reducible refine (C1.out.of hG hb).mono ?_); rintro e w1 ⟨rfl, hb1⟩)
    go_wp2
    go_ret
    exact ⟨rfl, bto hb hb1⟩
theorem acc_units {s : List UInt8} {p : Nat} {n : Int} (h : decQ s * tenQ p = (n : Rat)) : decZ s * 10 ^ p = n * 10 ^ (decP s).length := by
  have h0 := ten_ne (decP s).length
  have h1 : ((decZ s * ((10 ^ p : Nat) : Int) : Int) : Rat) = ((n * ((10 ^ (decP s).length : Nat) : Int) : Int) : Rat) := by
    rw [Rat.intCast_mul, Rat.intCast_mul, ← h]
    have h2 := divInt_ten (decZ s) (decP s).length
    unfold decQ
    unfold tenQ at *
    grind
  have h3 := Rat.intCast_inj.1 h1
  rw [Int.natCast_pow, Int.natCast_pow] at h3
  exact h3
theorem call_trim (args : Array Value) (w : World) : (callFunc 65 args).run Tryz.prog w = .ok (.enter 65 args) w := by kernel_rfl
set_option maxHeartbeats 4000000 in
set_option maxRecDepth 100000 in
theorem acc_law (s : List UInt8) (n : Int) (_hn0 : -9223372036854775808 ≤ n) (_hn1 : n ≤ 9223372036854775807) (w : World) (hG : Glob w) :
    Calls Tryz.prog 12 #[.string ⟨s.toArray⟩, .int .i64 n] w fun e w' => e = .returned (.bool true) ∧ Below w.heap.size w w' := by
  have CW := Lib.hid wAwake3
  have hb := Below.refl w.heap.size w
  go_enter Tryz.func12, Tryz.ntmps12
  by_cases hs : 60 < s.length
  · have e1 : decide (60 < s.length) = true := decide_eq_true hs
    go_wp2_with fail
    ((with_reducible refine (CW.out.of hG hb).mono ?_); rintro e w2 ⟨rfl, hb2⟩)
    replace hb := bto hb hb2
    clear hb2
    go_wp2
    go_ret
    exact ⟨rfl, hb⟩
  have e1 : decide (60 < s.length) = false := decide_eq_false hs
  by_cases h0 : n < 0
  · have e2 : decide (n < 0) = true := decide_eq_true h0
    go_wp2_with fail
    ((with_reducible refine (CW.out.of hG hb).mono ?_); rintro e w2 ⟨rfl, hb2⟩)
    replace hb := bto hb hb2
    clear hb2
    go_wp2
    go_ret
    exact ⟨rfl, hb⟩
  have e2 : decide (n < 0) = false := decide_eq_false h0
  by_cases h12 : 12 < n
  · have e3 : decide (12 < n) = true := decide_eq_true h12
    go_wp2_with fail
    ((with_reducible refine (CW.out.of hG hb).mono ?_); rintro e w2 ⟨rfl, hb2⟩)
    replace hb := bto hb hb2
    clear hb2
    go_wp2
    go_ret
    exact ⟨rfl, hb⟩
  have e3 : decide (12 < n) = false := decide_eq_false h12
  obtain ⟨p, rfl⟩ : ∃ p : Nat, n = p := ⟨n.toNat, by omega⟩
  have hp : p ≤ 12 := by omega
  have hs' : s.length ≤ 60 := by omega
  have c1 := dParse (s := s) (by omega) hp
  have c2 := dFrac (s := s) (by omega)
  cases hok : decOk s
  · rw [parseV_f hok] at c1
    rw [fracV_f hok] at c2
    have C1 := Lib.hid c1
    have C2 := Lib.hid c2
    clear c1 c2 hok hs'
    go_wp2_with fail
    ((with_reducible refine (C1.out.of hG hb).mono ?_); rintro e w2 ⟨rfl, hb2⟩)
    replace hb := bto hb hb2
    clear hb2
    go_wp2_with fail
    ((with_reducible refine (C2.out.of hG hb).mono ?_); rintro e w3 ⟨rfl, hb3⟩)
    replace hb := bto hb hb3
    clear hb3
    replace hb := bto hb (below_alloc w3 (.cells #[.string ⟨#[]⟩, .string ⟨#[]⟩] 32))
    go_wp2_with fail
    ((with_reducible refine (CW.out.of hG hb).mono ?_); rintro e w4 ⟨rfl, hb4⟩)
    replace hb := bto hb hb4
    clear hb4
    go_wp2
    go_ret
    exact ⟨rfl, hb⟩
  rw [fracV_t hok] at c2
  have bq := decQ_bd (s := s) (K := 121) (by omega) (decOk_dig hok)
  have by' := bd_mul bq (bd_ten p)
  have c3 := riPower (l := [49, 48]) (by decide) (n := p) (by omega) (ten_val p)
  have hlen : ((10 ^ p : Nat) : Int).natAbs < 10 ^ (p + 1) := by rw [Int.natAbs_natCast]; exact Nat.pow_lt_pow_right (by decide) (by omega)
  have cO := rOf (l := canon ((10 ^ p : Nat) : Int)) (canon_len_of hlen (by omega)) (val_canon _)
  rw [← tenQ_int] at cO
  have cM := rMul (isq_fr bq (by decide)) (isq_fr (bd_ten p) (by omega)) rfl
  have cP := rParts (isq_fr by' (by omega))
  have hde : ((decQ s * tenQ p).den : Int).natAbs < 10 ^ (121 + (p + 1)) := by rw [Int.natAbs_natCast]; exact by'.2
  have cC := riCompare (l := canon ((decQ s * tenQ p).den : Int)) (l' := [49]) (canon_len_of hde (by omega)) (by decide) (show cmpZ (val (canon ((decQ s * tenQ p).den : Int))) (val [49]) = cmpZ ((decQ s * tenQ p).den : Int) 1 by rw [val_canon]; rfl)
  have hone := cmp_one (decQ s * tenQ p).den
  have hnum : (decQ s * tenQ p).num.natAbs < 10 ^ (121 + (p + 1)) := by'.1
  have cT := dText (l := canon (decQ s * tenQ p).num) (canon_len_of hnum (by omega)) (val_canon _) hp
  have htl := textD_len (decQ s * tenQ p).num p
  have hdl := dec_len_le _ _ hnum
  have cT1 := wTrim (textD (decQ s * tenQ p).num p) (by omega)
  have cT2 := wTrim s (by omega)
  have cN := rOf (l := canon (decQ s * tenQ p).num) (canon_len_of hnum (by omega)) (val_canon _)
  have bN := bd_int hnum (by omega)
  have hyn : (decQ s * tenQ p).den = 1 → decQ s * tenQ p = ((decQ s * tenQ p).num : Rat) := fun h => by
    conv => lhs; rw [← Rat.num_divInt_den (decQ s * tenQ p), h]
    exact (Rat.num_divInt_den (((decQ s * tenQ p).num : Int) : Rat))
  have htr : (decQ s * tenQ p).den = 1 → trimT (textD (decQ s * tenQ p).num p) = trimT s := fun h => trim_text hok p _ (acc_units (hyn h))
  have cE : (decQ s * tenQ p).den = 1 → Ret 42 _ _ := fun h => rCompare (isq_fr by' (by omega)) (isq_fr bN (by omega)) (show cmpQ (decQ s * tenQ p) (((decQ s * tenQ p).num : Int) : Rat) = 0 by rw [← hyn h, cmpQ_self])
  have hP1 := parseV_1 (p := p) hok
  have hP0 := parseV_0 (p := p) hok
  clear hyn bN hdl htl hnum hde hlen by' bq hok
  generalize trimT (textD (decQ s * tenQ p).num p) = TT at *
  generalize trimT s = TS at *
  generalize textD (decQ s * tenQ p).num p = TX at *
  generalize cmpZ ((decQ s * tenQ p).den : Int) 1 = cw at *
  generalize canon ((decQ s * tenQ p).den : Int) = DN at *
  generalize (decQ s * tenQ p).den = den at *
  generalize fN (((decQ s * tenQ p).num : Int) : Rat) = W0 at *
  generalize fD (((decQ s * tenQ p).num : Int) : Rat) = W1 at *
  have HNn : Hid (fN (decQ s * tenQ p) = canon (decQ s * tenQ p).num) := rfl
  rw [HNn.out] at cP cM cE
  generalize canon (decQ s * tenQ p).num = NN at *
  generalize fD (decQ s * tenQ p) = Y1 at *
  generalize fN (decQ s) = N at *
  generalize fD (decQ s) = D at *
  generalize canon ((10 ^ p : Nat) : Int) = TP at *
  generalize fN (tenQ p) = M at *
  generalize fD (tenQ p) = E at *
  clear HNn
  have C2 := Lib.hid c2
  have C3 := Lib.hid c3
  have CO := Lib.hid cO
  have CM := Lib.hid cM
  have CP := Lib.hid cP
  have CC := Lib.hid cC
  have CT := Lib.hid cT
  have CT1 := Lib.hid cT1
  have CT2 := Lib.hid cT2
  have CN := Lib.hid cN
  have HT := Lib.hid htr
  have HE := Lib.hid cE
  clear c2 c3 cO cM cP cC cT cT1 cT2 cN htr cE
  by_cases h1 : cw = 0
  · rw [hP1 (hone.1 h1)] at c1
    have C1 := Lib.hid c1
    have hT := HT.out (hone.1 h1)
    rw [hT] at CT1
    have CE := Lib.hid (HE.out (hone.1 h1))
    have i1 := intbeq h1
    have i2 := bneq i1
    have ct := call_trim
    clear c1 hP1 hP0 hone HT HE hT h1
    go_wp2_with fail
    ((with_reducible refine (C1.out.of hG hb).mono ?_); rintro e w2 ⟨rfl, hb2⟩)
    replace hb := bto hb hb2
    clear hb2
    go_wp2_with fail
    ((with_reducible refine (C2.out.of hG hb).mono ?_); rintro e w3 ⟨rfl, hb3⟩)
    replace hb := bto hb hb3
    clear hb3
    have x7 := FBox.new w3 (.string ⟨N.toArray⟩) (.string ⟨D.toArray⟩) 32
    replace hb := bto hb (below_alloc w3 (.cells #[.string ⟨N.toArray⟩, .string ⟨D.toArray⟩] 32))
    go_wp2_with fail
    ((with_reducible refine (C3.out.of hG hb).mono ?_); rintro e w4 ⟨rfl, hb4⟩)
    replace x7 := x7.below hb4
    replace hb := bto hb hb4
    clear hb4
    go_wp2_with fail
    refine wp_region_kept (by kernel_rfl) (by kernel_rfl) ?_
    refine kept_val _ (fun _ => rfl) (fun ρ w hw => by have q0 := (x7.below hw).c0; have q1 := (x7.below hw).c1; go_simp; first | done | with_reducible rfl) ?_
    simp only [Act.put, List.setIfInBounds_toArray, List.set_cons_zero, List.set_cons_succ, Nat.reduceAdd]
    refine kept_val _ (fun _ => rfl) (fun ρ w hw => by go_simp; first | done | with_reducible rfl) ?_
    simp only [Act.put, List.setIfInBounds_toArray, List.set_cons_zero, List.set_cons_succ, Nat.reduceAdd]
    refine kept_call _ _ _ (fun _ => rfl) (fun ρ w hw => by go_simp; first | done | with_reducible rfl) (fun w hw => CO.out.of hG (bto hb hw)) ?_
    simp only [Act.put, List.setIfInBounds_toArray, List.set_cons_zero, List.set_cons_succ, Nat.reduceAdd]
    refine kept_call _ _ _ (fun _ => rfl) (fun ρ w hw => by go_simp; first | done | with_reducible rfl) (fun w hw => CM.out.of hG (bto hb hw)) ?_
    simp only [Act.put, List.setIfInBounds_toArray, List.set_cons_zero, List.set_cons_succ, Nat.reduceAdd]
    refine kept_box (fun b => .pointer (some ⟨b, 0, none⟩)) _ rfl (fun _ => rfl) (fun ρ w hw => by go_simp; first | done | with_reducible rfl) ?_
    simp only [Act.put, List.setIfInBounds_toArray, List.set_cons_zero, List.set_cons_succ, Nat.reduceAdd]
    refine kept_put2 4 _ 11 _ _ _ _ _ rfl rfl rfl (by decide) (fun _ => rfl) (fun ρ w hw q0 q1 q2 q3 => by go_simp; first | done | with_reducible rfl) ?_
    simp only [Act.put, Nat.reduceAdd]
    refine kept_end (fun ρ w5 hF => ?_)
    replace x7 := x7.below hF.below
    replace hb := bto hb hF.below
    have x11 := FBox.ofB (hF.box 4 _ _ rfl).2
    generalize ρ 4 = b11 at *
    clear hF
    have qx11_0 := x11.c0
    have qx11_1 := x11.c1
    go_wp2_with fail
    ((with_reducible refine (CP.out.of hG hb).mono ?_); rintro e w6 ⟨rfl, hb6⟩)
    clear qx11_0 qx11_1
    replace x7 := x7.below hb6
    replace x11 := x11.below hb6
    replace hb := bto hb hb6
    clear hb6
    go_wp2_with fail
    ((with_reducible refine (CC.out.of hG hb).mono ?_); rintro e w7 ⟨rfl, hb7⟩)
    replace x7 := x7.below hb7
    replace x11 := x11.below hb7
    replace hb := bto hb hb7
    clear hb7
    go_wp2_with fail
    ((with_reducible refine (CT.out.of hG hb).mono ?_); rintro e w8 ⟨rfl, hb8⟩)
    replace x7 := x7.below hb8
    replace x11 := x11.below hb8
    replace hb := bto hb hb8
    clear hb8
    go_wp2_with fail
    refine wp_region_kept (by kernel_rfl) (by kernel_rfl) ?_
    refine kept_val _ (fun _ => rfl) (fun ρ w hw => by go_simp; first | done | with_reducible rfl) ?_
    simp only [Act.put, List.setIfInBounds_toArray, List.set_cons_zero, List.set_cons_succ, Nat.reduceAdd]
    refine kept_val _ (fun _ => rfl) (fun ρ w hw => by go_simp; first | done | with_reducible rfl) ?_
    simp only [Act.put, List.setIfInBounds_toArray, List.set_cons_zero, List.set_cons_succ, Nat.reduceAdd]
    refine kept_val _ (fun _ => rfl) (fun ρ w hw => by go_simp; first | done | with_reducible rfl) ?_
    simp only [Act.put, List.setIfInBounds_toArray, List.set_cons_zero, List.set_cons_succ, Nat.reduceAdd]
    refine kept_val _ (fun _ => rfl) (fun ρ w hw => by go_simp; first | done | with_reducible rfl) ?_
    simp only [Act.put, List.setIfInBounds_toArray, List.set_cons_zero, List.set_cons_succ, Nat.reduceAdd]
    refine kept_val _ (fun _ => rfl) (fun ρ w hw => by go_simp; first | done | with_reducible rfl) ?_
    simp only [Act.put, List.setIfInBounds_toArray, List.set_cons_zero, List.set_cons_succ, Nat.reduceAdd]
    refine kept_call _ _ _ (fun _ => rfl) (fun ρ w hw => by go_simp; first | done | with_reducible rfl) (fun w hw => CT1.out.of hG (bto hb hw)) ?_
    simp only [Act.put, List.setIfInBounds_toArray, List.set_cons_zero, List.set_cons_succ, Nat.reduceAdd]
    refine kept_val _ (fun _ => rfl) (fun ρ w hw => by go_simp; first | done | with_reducible rfl) ?_
    simp only [Act.put, List.setIfInBounds_toArray, List.set_cons_zero, List.set_cons_succ, Nat.reduceAdd]
    refine kept_val _ (fun _ => rfl) (fun ρ w hw => by go_simp; first | done | with_reducible rfl) ?_
    simp only [Act.put, List.setIfInBounds_toArray, List.set_cons_zero, List.set_cons_succ, Nat.reduceAdd]
    refine kept_call _ _ _ (fun _ => rfl) (fun ρ w hw => by go_simp; first | done | with_reducible rfl) (fun w hw => CT2.out.of hG (bto hb hw)) ?_
    simp only [Act.put, List.setIfInBounds_toArray, List.set_cons_zero, List.set_cons_succ, Nat.reduceAdd]
    refine kept_val _ (fun _ => rfl) (fun ρ w hw => by go_simp; first | done | with_reducible rfl) ?_
    simp only [Act.put, List.setIfInBounds_toArray, List.set_cons_zero, List.set_cons_succ, Nat.reduceAdd]
    refine kept_val _ (fun _ => rfl) (fun ρ w hw => by go_simp; first | done | with_reducible rfl) ?_
    simp only [Act.put, List.setIfInBounds_toArray, List.set_cons_zero, List.set_cons_succ, Nat.reduceAdd]
    refine kept_val _ (fun _ => rfl) (fun ρ w hw => by go_simp; first | done | with_reducible rfl) ?_
    simp only [Act.put, List.setIfInBounds_toArray, List.set_cons_zero, List.set_cons_succ, Nat.reduceAdd]
    refine kept_val _ (fun _ => rfl) (fun ρ w hw => by have q0 := (x11.below hw).c0; have q1 := (x11.below hw).c1; go_simp; first | done | with_reducible rfl) ?_
    simp only [Act.put, List.setIfInBounds_toArray, List.set_cons_zero, List.set_cons_succ, Nat.reduceAdd]
    refine kept_val _ (fun _ => rfl) (fun ρ w hw => by go_simp; first | done | with_reducible rfl) ?_
    simp only [Act.put, List.setIfInBounds_toArray, List.set_cons_zero, List.set_cons_succ, Nat.reduceAdd]
    refine kept_call _ _ _ (fun _ => rfl) (fun ρ w hw => by go_simp; first | done | with_reducible rfl) (fun w hw => CN.out.of hG (bto hb hw)) ?_
    simp only [Act.put, List.setIfInBounds_toArray, List.set_cons_zero, List.set_cons_succ, Nat.reduceAdd]
    refine kept_call _ _ _ (fun _ => rfl) (fun ρ w hw => by go_simp; first | done | with_reducible rfl) (fun w hw => CE.out.of hG (bto hb hw)) ?_
    simp only [Act.put, List.setIfInBounds_toArray, List.set_cons_zero, List.set_cons_succ, Nat.reduceAdd]
    refine kept_val _ (fun _ => rfl) (fun ρ w hw => by go_simp; first | done | with_reducible rfl) ?_
    simp only [Act.put, List.setIfInBounds_toArray, List.set_cons_zero, List.set_cons_succ, Nat.reduceAdd]
    refine kept_val _ (fun _ => rfl) (fun ρ w hw => by go_simp; first | done | with_reducible rfl) ?_
    simp only [Act.put, List.setIfInBounds_toArray, List.set_cons_zero, List.set_cons_succ, Nat.reduceAdd]
    refine kept_val _ (fun _ => rfl) (fun ρ w hw => by go_simp; first | done | with_reducible rfl) ?_
    simp only [Act.put, List.setIfInBounds_toArray, List.set_cons_zero, List.set_cons_succ, Nat.reduceAdd]
    refine kept_call _ _ _ (fun _ => rfl) (fun ρ w hw => by go_simp; first | done | with_reducible rfl) (fun w hw => CW.out.of hG (bto hb hw)) ?_
    simp only [Act.put, List.setIfInBounds_toArray, List.set_cons_zero, List.set_cons_succ, Nat.reduceAdd]
    refine kept_val _ (fun _ => rfl) (fun ρ w hw => by go_simp; first | done | with_reducible rfl) ?_
    simp only [Act.put, List.setIfInBounds_toArray, List.set_cons_zero, List.set_cons_succ, Nat.reduceAdd]
    refine kept_val _ (fun _ => rfl) (fun ρ w hw => by go_simp; first | done | with_reducible rfl) ?_
    simp only [Act.put, List.setIfInBounds_toArray, List.set_cons_zero, List.set_cons_succ, Nat.reduceAdd]
    refine kept_end (fun ρ w9 hF => ?_)
    replace x7 := x7.below hF.below
    replace x11 := x11.below hF.below
    replace hb := bto hb hF.below
    clear hF
    go_wp2
    go_ret
    exact ⟨rfl, hb⟩
  · rw [hP0 (fun h => h1 (hone.2 h))] at c1
    have C1 := Lib.hid c1
    have i1 := intbne h1
    have i2 := bneq' i1
    clear c1 hP1 hP0 hone HT HE h1
    go_wp2_with fail
    ((with_reducible refine (C1.out.of hG hb).mono ?_); rintro e w2 ⟨rfl, hb2⟩)
    replace hb := bto hb hb2
    clear hb2
    go_wp2_with fail
    ((with_reducible refine (C2.out.of hG hb).mono ?_); rintro e w3 ⟨rfl, hb3⟩)
    replace hb := bto hb hb3
    clear hb3
    have x7 := FBox.new w3 (.string ⟨N.toArray⟩) (.string ⟨D.toArray⟩) 32
    replace hb := bto hb (below_alloc w3 (.cells #[.string ⟨N.toArray⟩, .string ⟨D.toArray⟩] 32))
    go_wp2_with fail
    ((with_reducible refine (C3.out.of hG hb).mono ?_); rintro e w4 ⟨rfl, hb4⟩)
    replace x7 := x7.below hb4
    replace hb := bto hb hb4
    clear hb4
    go_wp2_with fail
    refine wp_region_kept (by kernel_rfl) (by kernel_rfl) ?_
    refine kept_val _ (fun _ => rfl) (fun ρ w hw => by have q0 := (x7.below hw).c0; have q1 := (x7.below hw).c1; go_simp; first | done | with_reducible rfl) ?_
    simp only [Act.put, List.setIfInBounds_toArray, List.set_cons_zero, List.set_cons_succ, Nat.reduceAdd]
    refine kept_val _ (fun _ => rfl) (fun ρ w hw => by go_simp; first | done | with_reducible rfl) ?_
    simp only [Act.put, List.setIfInBounds_toArray, List.set_cons_zero, List.set_cons_succ, Nat.reduceAdd]
    refine kept_call _ _ _ (fun _ => rfl) (fun ρ w hw => by go_simp; first | done | with_reducible rfl) (fun w hw => CO.out.of hG (bto hb hw)) ?_
    simp only [Act.put, List.setIfInBounds_toArray, List.set_cons_zero, List.set_cons_succ, Nat.reduceAdd]
    refine kept_call _ _ _ (fun _ => rfl) (fun ρ w hw => by go_simp; first | done | with_reducible rfl) (fun w hw => CM.out.of hG (bto hb hw)) ?_
    simp only [Act.put, List.setIfInBounds_toArray, List.set_cons_zero, List.set_cons_succ, Nat.reduceAdd]
    refine kept_box (fun b => .pointer (some ⟨b, 0, none⟩)) _ rfl (fun _ => rfl) (fun ρ w hw => by go_simp; first | done | with_reducible rfl) ?_
    simp only [Act.put, List.setIfInBounds_toArray, List.set_cons_zero, List.set_cons_succ, Nat.reduceAdd]
    refine kept_put2 4 _ 11 _ _ _ _ _ rfl rfl rfl (by decide) (fun _ => rfl) (fun ρ w hw q0 q1 q2 q3 => by go_simp; first | done | with_reducible rfl) ?_
    simp only [Act.put, Nat.reduceAdd]
    refine kept_end (fun ρ w5 hF => ?_)
    replace x7 := x7.below hF.below
    replace hb := bto hb hF.below
    have x11 := FBox.ofB (hF.box 4 _ _ rfl).2
    generalize ρ 4 = b11 at *
    clear hF
    have qx11_0 := x11.c0
    have qx11_1 := x11.c1
    go_wp2_with fail
    ((with_reducible refine (CP.out.of hG hb).mono ?_); rintro e w6 ⟨rfl, hb6⟩)
    clear qx11_0 qx11_1
    replace x7 := x7.below hb6
    replace x11 := x11.below hb6
    replace hb := bto hb hb6
    clear hb6
    go_wp2_with fail
    ((with_reducible refine (CC.out.of hG hb).mono ?_); rintro e w7 ⟨rfl, hb7⟩)
    replace x7 := x7.below hb7
    replace x11 := x11.below hb7
    replace hb := bto hb hb7
    clear hb7
    clear x7
    clear x11
    go_wp2_with fail
    ((with_reducible refine (CW.out.of hG hb).mono ?_); rintro e w8 ⟨rfl, hb8⟩)
    replace hb := bto hb hb8
    clear hb8
    go_wp2
    go_ret
    exact ⟨rfl, hb⟩
end Go.Proofs.YtmmhimgkpfcokaaGreatDoor
