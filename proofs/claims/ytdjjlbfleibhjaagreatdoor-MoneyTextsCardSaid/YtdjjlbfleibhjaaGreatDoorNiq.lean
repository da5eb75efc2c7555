/- MoneyTexts: text and amount, one into the other; strings.IndexByte, TrimSuffix. -/
import Derived.Test.YtdjjlbfleibhjaaGreatDoorM7
import Derived.Shelf.Small.Strs
namespace Go.Proofs.YtdjjlbfleibhjaaGreatDoor
open Go.RowKit Num
theorem rIdx46 (s : List UInt8) : Ret 33 #[.string ⟨s.toArray⟩, .int .u8 46] (.int .i64 (Lib.indexByte s 46)) := fun w _ => by
  refine (Any.strings_IndexByte { Tryz.lays161 with } ⟨s.toArray⟩ 46 w).mono ?_
  rintro e w' ⟨rfl, rfl⟩
  exact ⟨rfl, Below.refl _ _⟩
theorem rTrimSu (s p : List UInt8) (hs : s.length ≤ 1000000) : Ret 31 #[.string ⟨s.toArray⟩, .string ⟨p.toArray⟩] (.string ⟨(Lib.trimSuffix s p).toArray⟩) := fun w _ => by
  refine (Tryz.strings_TrimSuffix ⟨s.toArray⟩ ⟨p.toArray⟩ w (by show s.toArray.size ≤ _; simp; omega)).mono ?_
  rintro e w' ⟨rfl, rfl⟩
  exact ⟨rfl, Below.refl _ _⟩
theorem trim_app (a p : List UInt8) : Lib.trimSuffix (a ++ p) p = a := by
  unfold Lib.trimSuffix
  have h : Lib.hasSuffix (a ++ p) p = true := by simp [Lib.hasSuffix]
  rw [if_pos h, List.length_append, Nat.add_sub_cancel, List.take_left]
theorem ib_none : ∀ a : List UInt8, 46 ∉ a → Lib.indexByte a 46 = -1
  | [], _ => rfl
  | x :: a, h => by
    have h1 : ¬ x = 46 := fun e => h (by rw [e]; exact List.mem_cons_self)
    have ih := ib_none a (fun e => h (List.mem_cons_of_mem _ e))
    unfold Lib.indexByte
    simp [h1, ih]
theorem ib_at : ∀ a b : List UInt8, 46 ∉ a → Lib.indexByte (a ++ 46 :: b) 46 = (a.length : Int)
  | [], b, _ => by unfold Lib.indexByte; simp
  | x :: a, b, h => by
    have h1 : ¬ x = 46 := fun e => h (by rw [e]; exact List.mem_cons_self)
    have ih := ib_at a b (fun e => h (List.mem_cons_of_mem _ e))
    rw [List.cons_append]
    unfold Lib.indexByte
    rw [ih]
    have h2 : ((a.length : Int) == -1) = false := by rw [beq_eq_false_iff_ne]; omega
    simp [h1, h2]
theorem textQ (z : Int) (p : Nat) : decQ (textD z p) = Rat.divInt z ((10 ^ p : Nat) : Int) := by unfold decQ; rw [textD_Z, textD_P, tP_len]
theorem tenN (p : Nat) : ((10 ^ p : Nat) : Int) ≠ 0 := by have := Nat.pow_pos (n := p) (show 0 < 10 by decide); omega
theorem divTen (z : Int) (p : Nat) : Rat.divInt z ((10 ^ p : Nat) : Int) * tenQ p = (z : Rat) := by
  unfold tenQ
  rw [Rat.divInt_eq_div]
  exact Rat.div_mul_cancel (fun h => tenN p (Rat.intCast_inj.1 (h.trans rfl)))
theorem parseP_text (z : Int) (p : Nat) : parseP (textD z p) p = (canon z, 0) := by
  have h : decQ (textD z p) * tenQ p = (z : Rat) := by rw [textQ, divTen]
  unfold parseP
  rw [if_pos (textD_ok z p), if_pos (by rw [h]; exact Rat.den_intCast z), h]; rfl
theorem rat_cancel {a b c : Rat} (hc : c ≠ 0) (h : a * c = b * c) : a = b := by
  have h1 : a * c / c = b * c / c := by rw [h]
  rwa [Rat.mul_div_cancel hc, Rat.mul_div_cancel hc] at h1
theorem code46 {l : List UInt8} (h : codeB l = true) : 46 ∉ l := fun hm => by
  unfold codeB at h
  rw [Bool.and_eq_true] at h
  have := (codeC_iff 46).1 (List.all_eq_true.1 h.2 46 hm)
  revert this; decide
/-- where the point of a text is -/
theorem text_point (z : Int) (p : Nat) {c : List UInt8} (hc : codeB c = true) :
    (p = 0 ∧ Lib.indexByte (textD z p ++ 32 :: c) 46 = -1) ∨ ∃ a : Nat, 0 < p ∧ Lib.indexByte (textD z p ++ 32 :: c) 46 = (a : Int) ∧ (textD z p ++ 32 :: c).length = a + 1 + p + 4 := by
  have hs : 46 ∉ sgnT z := by unfold sgnT; split <;> decide
  have hw := no46 (tW_dig z.natAbs p)
  have h32 : 46 ∉ (32 :: c) := fun h => by
    rcases List.mem_cons.1 h with h | h
    · cases h
    · exact code46 hc h
  have ha : 46 ∉ sgnT z ++ tW z.natAbs p := by rw [List.mem_append]; exact fun hm => hm.elim hs hw
  unfold textD
  by_cases h : p = 0
  · left
    refine ⟨h, ?_⟩
    rw [if_pos h, List.append_nil]
    exact ib_none _ (by rw [List.mem_append]; exact fun hm => hm.elim ha h32)
  · right
    refine ⟨(sgnT z ++ tW z.natAbs p).length, by omega, ?_, ?_⟩
    · rw [if_neg h, ← List.append_assoc, List.append_assoc, List.cons_append]
      exact ib_at _ _ ha
    · rw [if_neg h]
      simp only [List.length_append, List.length_cons, tP_len, codeB_len hc]
      omega
/-- what Text accepts -/
theorem textV_ok {ts : List Cur} {m : Mon} (h : (textV ts m).2 = 0) : ∃ c, tabE ts = 0 ∧ findT ts m.cur = some c ∧ m.amt = canon (val m.amt) ∧ textV ts m = (textD (val m.amt) c.places.toNat ++ 32 :: m.cur, 0) := by
  by_cases g0 : tabE ts = 0
  rotate_left
  · unfold textV at h; rw [if_pos g0] at h; cases h
  cases hf : findT ts m.cur with
  | none => unfold textV at h; rw [if_neg (fun g => g g0), hf] at h; cases h
  | some c =>
    have e1 : textV ts m = if ¬ m.amt = canon (val m.amt) then ([], 1) else (textD (val m.amt) c.places.toNat ++ 32 :: m.cur, 0) := by
      unfold textV; rw [if_neg (fun g => g g0), hf]
    by_cases g1 : m.amt = canon (val m.amt)
    · rw [if_neg (fun g => g g1)] at e1
      exact ⟨c, g0, rfl, g1, e1⟩
    · rw [if_pos g1] at e1; rw [e1] at h; cases h
theorem text_parts (T c : List UInt8) (h3 : c.length = 3) : (T ++ 32 :: c).length = T.length + 4 ∧ (T ++ 32 :: c)[(T ++ 32 :: c).length - 4]? = some 32 ∧ (T ++ 32 :: c).drop ((T ++ 32 :: c).length - 3) = c ∧ (T ++ 32 :: c).take ((T ++ 32 :: c).length - 4) = T := by
  have hl : (T ++ 32 :: c).length = T.length + 4 := by simp [h3]
  rw [hl, Nat.add_sub_cancel, show T.length + 4 - 3 = T.length + 1 by omega]
  refine ⟨rfl, by simp, ?_, List.take_left⟩
  rw [List.drop_append]
  simp
/-- the text of an amount leads back to it -/
theorem text_back {ts : List Cur} {m : Mon} (h : (textV ts m).2 = 0) (hl : m.amt.length ≤ 13) : mParse ts (textV ts m).1 = (m, 0) ∧ (textV ts m).1.length ≤ 100 := by
  obtain ⟨c, g0, hf, g1, e⟩ := textV_ok h
  have ht := (tabE_ok g0).2 c (findT_some hf).1
  have hcc := (findT_some hf).2
  have hco : codeB m.cur = true := by rw [← hcc]; exact ht.1
  have h3 := codeB_len hco
  have hd : (dec (val m.amt).natAbs).length ≤ 13 := Num.dec_len_le _ _ (val_lt_of hl)
  have hlen := textD_len (val m.amt) c.places.toNat
  rw [e]
  obtain ⟨p1, p2, p3, p4⟩ := text_parts (textD (val m.amt) c.places.toNat) m.cur h3
  have hsz : (textD (val m.amt) c.places.toNat ++ 32 :: m.cur).length ≤ 100 := by rw [p1]; omega
  refine ⟨?_, hsz⟩
  show mParse ts (textD (val m.amt) c.places.toNat ++ 32 :: m.cur) = (m, 0)
  generalize hS : textD (val m.amt) c.places.toNat ++ 32 :: m.cur = S at *
  unfold mParse
  rw [if_neg (fun g => g g0), if_neg (by omega), if_neg (by omega), if_neg (fun g => g p2), if_neg (fun g => g (by rw [p3]; exact hco)), p3, p4, hf]
  show (if (parseP (textD (val m.amt) c.places.toNat) c.places.toNat).2 = 0 then ((⟨m.cur, (parseP (textD (val m.amt) c.places.toNat) c.places.toNat).1⟩, 0) : Mon × Int) else (noM, (parseP (textD (val m.amt) c.places.toNat) c.places.toNat).2)) = (m, 0)
  rw [parseP_text, if_pos rfl]
  show ((⟨m.cur, canon (val m.amt)⟩, 0) : Mon × Int) = (m, 0)
  rw [← g1]
/-- what Parse has accepted -/
structure Parsed (ts : List Cur) (s : List UInt8) (y : Mon) (T : List UInt8) (c : Cur) (z : Int) : Prop where
  txt : s = T ++ 32 :: y.cur
  code : codeB y.cur = true
  find : findT ts y.cur = some c
  p0 : 0 ≤ c.places ∧ c.places ≤ 12
  ok : decOk T = true
  q : decQ T = decQ (textD z c.places.toNat)
  amt : y.amt = canon z
  text : textV ts y = (textD z c.places.toNat ++ 32 :: y.cur, 0)
theorem parse_back {ts : List Cur} {s : List UInt8} (h : (mParse ts s).2 = 0) : ∃ T c z, Parsed ts s (mParse ts s).1 T c z := by
  by_cases g0 : tabE ts = 0
  rotate_left
  · unfold mParse at h; rw [if_pos g0] at h; cases h
  by_cases g1 : 65536 < s.length
  · unfold mParse at h; rw [if_neg (fun g => g g0), if_pos g1] at h; cases h
  by_cases g2 : s.length < 4
  · unfold mParse at h; rw [if_neg (fun g => g g0), if_neg g1, if_pos g2] at h; cases h
  by_cases g3 : s[s.length - 4]? = some 32
  rotate_left
  · unfold mParse at h; rw [if_neg (fun g => g g0), if_neg g1, if_neg g2, if_pos g3] at h; cases h
  by_cases g4 : codeB (s.drop (s.length - 3)) = true
  rotate_left
  · unfold mParse at h; rw [if_neg (fun g => g g0), if_neg g1, if_neg g2, if_neg (fun g => g g3), if_pos g4] at h; cases h
  cases hf : findT ts (s.drop (s.length - 3)) with
  | none => unfold mParse at h; rw [if_neg (fun g => g g0), if_neg g1, if_neg g2, if_neg (fun g => g g3), if_neg (fun g => g g4), hf] at h; cases h
  | some c =>
    have e1 : mParse ts s = if (parseP (s.take (s.length - 4)) c.places.toNat).2 = 0 then (⟨s.drop (s.length - 3), (parseP (s.take (s.length - 4)) c.places.toNat).1⟩, 0) else (noM, (parseP (s.take (s.length - 4)) c.places.toNat).2) := by
      unfold mParse; rw [if_neg (fun g => g g0), if_neg g1, if_neg g2, if_neg (fun g => g g3), if_neg (fun g => g g4), hf]
    by_cases g5 : (parseP (s.take (s.length - 4)) c.places.toNat).2 = 0
    rotate_left
    · rw [if_neg g5] at e1; rw [e1] at h; exact absurd h g5
    rw [if_pos g5] at e1
    have ht := (tabE_ok g0).2 c (findT_some hf).1
    have hs : s = s.take (s.length - 4) ++ 32 :: s.drop (s.length - 3) := by
      obtain ⟨hk, hx⟩ := List.getElem?_eq_some_iff.1 g3
      have h1 : s.drop (s.length - 4) = 32 :: s.drop (s.length - 3) := by
        rw [List.drop_eq_getElem_cons hk, hx, show s.length - 4 + 1 = s.length - 3 by omega]
      rw [← h1, List.take_append_drop]
    have hP : parseP (s.take (s.length - 4)) c.places.toNat = if decOk (s.take (s.length - 4)) = true then (if (decQ (s.take (s.length - 4)) * tenQ c.places.toNat).den = 1 then (canon (decQ (s.take (s.length - 4)) * tenQ c.places.toNat).num, 0) else ([], 22)) else ([], 3) := rfl
    by_cases g6 : decOk (s.take (s.length - 4)) = true
    rotate_left
    · rw [hP, if_neg g6] at g5; cases g5
    rw [if_pos g6] at hP
    by_cases g7 : (decQ (s.take (s.length - 4)) * tenQ c.places.toNat).den = 1
    rotate_left
    · rw [hP, if_neg g7] at g5; cases g5
    rw [if_pos g7] at hP
    rw [e1]
    generalize s.take (s.length - 4) = T at *
    generalize s.drop (s.length - 3) = C at *
    rw [hP]
    have hq : decQ T * tenQ c.places.toNat = ((decQ T * tenQ c.places.toNat).num : Rat) := by
      conv => lhs; rw [← Rat.num_divInt_den (decQ T * tenQ c.places.toNat), g7]
      exact Rat.num_divInt_den (((decQ T * tenQ c.places.toNat).num : Int) : Rat)
    have hten : tenQ c.places.toNat ≠ 0 := fun hz => tenN c.places.toNat (Rat.intCast_inj.1 (hz.trans rfl))
    refine ⟨T, c, (decQ T * tenQ c.places.toNat).num, hs, g4, hf, ⟨ht.2.1, ht.2.2⟩, g6, ?_, rfl, ?_⟩
    · have h1 : decQ T * tenQ c.places.toNat = decQ (textD (decQ T * tenQ c.places.toNat).num c.places.toNat) * tenQ c.places.toNat := by rw [textQ, divTen]; exact hq
      exact rat_cancel hten h1
    · show textV ts ⟨C, canon (decQ T * tenQ c.places.toNat).num⟩ = _
      unfold textV
      rw [if_neg (fun g => g g0)]
      show (match findT ts C with
        | none => (([], 12) : List UInt8 × Int)
        | some c' => if ¬ canon (decQ T * tenQ c.places.toNat).num = canon (val (canon (decQ T * tenQ c.places.toNat).num)) then ([], 1) else (textD (val (canon (decQ T * tenQ c.places.toNat).num)) c'.places.toNat ++ 32 :: C, 0)) = _
      rw [hf]
      show (if ¬ canon (decQ T * tenQ c.places.toNat).num = canon (val (canon (decQ T * tenQ c.places.toNat).num)) then (([], 1) : List UInt8 × Int) else (textD (val (canon (decQ T * tenQ c.places.toNat).num)) c.places.toNat ++ 32 :: C, 0)) = _
      rw [val_canon, if_neg (fun g => g rfl)]
theorem Parsed.zlen {ts : List Cur} {s T : List UInt8} {y : Mon} {c : Cur} {z : Int} (h : Parsed ts s y T c z) (hl : T.length ≤ 40) : (canon z).length ≤ 100 ∧ (dec z.natAbs).length ≤ 99 := by
  have hq : decQ T * tenQ c.places.toNat = (z : Rat) := by rw [h.q, textQ, divTen]
  have hz : z.natAbs ≤ (decZ T).natAbs * 10 ^ c.places.toNat := by
    have h1 : (z : Rat) * (((10 ^ (decP T).length : Nat) : Int) : Rat) = ((decZ T * ((10 ^ c.places.toNat : Nat) : Int) : Int) : Rat) := by
      rw [← hq]
      unfold decQ tenQ
      rw [Rat.divInt_eq_div, Rat.mul_comm, ← Rat.mul_assoc, Rat.mul_comm _ ((decZ T : Rat) / _), Rat.div_mul_cancel (fun hh => tenN _ (Rat.intCast_inj.1 (hh.trans rfl))), Rat.intCast_mul]
    have h2 : z * ((10 ^ (decP T).length : Nat) : Int) = decZ T * ((10 ^ c.places.toNat : Nat) : Int) := by
      rw [← Rat.intCast_mul] at h1; exact Rat.intCast_inj.1 h1
    have h3 := congrArg Int.natAbs h2
    rw [Int.natAbs_mul, Int.natAbs_mul, Int.natAbs_natCast, Int.natAbs_natCast] at h3
    calc z.natAbs = z.natAbs * 1 := (Nat.mul_one _).symm
      _ ≤ z.natAbs * 10 ^ (decP T).length := Nat.mul_le_mul_left _ (Nat.pow_pos (by decide))
      _ = _ := h3
  have hN : (decZ T).natAbs < 10 ^ 80 := by
    have h1 : (decZ T).natAbs = decN' T := by unfold decZ; split <;> simp
    rw [h1]
    have h2 := decOk_dig h.ok
    refine Nat.lt_of_lt_of_le (nat_lt _ h2) (Nat.pow_le_pow_right (by decide) ?_)
    rw [List.length_append]
    have := decW_len T
    have := decP_len T
    omega
  have hp := h.p0
  have hb : z.natAbs < 10 ^ 99 := by
    have h2 : (10 : Nat) ^ c.places.toNat ≤ 10 ^ 12 := Nat.pow_le_pow_right (by decide) (by omega)
    calc z.natAbs ≤ (decZ T).natAbs * 10 ^ c.places.toNat := hz
      _ ≤ (decZ T).natAbs * 10 ^ 12 := Nat.mul_le_mul_left _ h2
      _ ≤ 10 ^ 80 * 10 ^ 12 := Nat.mul_le_mul_right _ (Nat.le_of_lt hN)
      _ < 10 ^ 99 := by decide +kernel
  exact ⟨canon_len_le _ _ hb, Num.dec_len_le _ _ hb⟩
theorem parse_no {ts : List Cur} {s : List UInt8} (h : ¬ (mParse ts s).2 = 0) : (mParse ts s).1 = noM := by
  revert h
  unfold mParse
  split
  · exact fun _ => rfl
  · split
    · exact fun _ => rfl
    · split
      · exact fun _ => rfl
      · split
        · exact fun _ => rfl
        · split
          · exact fun _ => rfl
          · split
            · exact fun _ => rfl
            · split
              · exact fun h => absurd rfl h
              · exact fun _ => rfl
def sameQ (a b c d : List UInt8) : Bool := (a == c) && ((b == d) && true)
set_option maxRecDepth 100000 in
theorem eqQF (a b c d : List UInt8) (w : World) : (Op.equalIn 10000 42 (.agg #[.string ⟨a.toArray⟩, .string ⟨b.toArray⟩]) (.agg #[.string ⟨c.toArray⟩, .string ⟨d.toArray⟩])).run Tryz.prog w = .ok (sameQ a b c d) w := by
  have hS : Tryz.prog.underlying 42 = some (.struct (Tryz.prog.fieldsOf 42)) := by kernel_rfl
  have hp : Tryz.prog.stoodInHeld 42 = false := by kernel_rfl
  rw [show (10000 : Nat) = 9999 + 1 from rfl, run_equalIn_agg w 9999 42 _ _ hS hp]
  simp only [Program.fieldsOf, Tryz.underlying42]
  unfold sameQ
  exact (eqf_step (by decide) (a := .string ⟨a.toArray⟩) (b := .string ⟨c.toArray⟩) (by go_simp) (by go_simp) (by rw [run_equalIn_string w 9998 _ _ _ Tryz.underlying23]; simp) (eqf_step (by decide) (a := .string ⟨b.toArray⟩) (b := .string ⟨d.toArray⟩) (by go_simp) (by go_simp) (by rw [run_equalIn_string w 9998 _ _ _ Tryz.underlying23]; simp) eqf_nil))
theorem guardQF : Tryz.prog.eqGuardType Tryz.prog.depth 42 = false := by kernel_rfl
end Go.Proofs.YtdjjlbfleibhjaaGreatDoor
