/- trancheref01: Canonical and Check of a string of whatever length. -/
import Derived.Test.YtmjglcgdcclinaaGreatDoorTl
namespace Go.Proofs.YtmjglcgdcclinaaGreatDoor
open Go.RowKit Num
set_option maxHeartbeats 2000000 in
set_option maxRecDepth 100000 in
theorem rdigits_big (l : List UInt8) (w : World) (hl : l.length ≤ 9223372036854775807) :
    Calls Tryz.prog 164 #[.string ⟨l.toArray⟩] w fun e w' => e = .returned (.tuple #[.string ⟨(digs l).toArray⟩, .bool (negB l)]) ∧ w = w' := by
  cases l with
  | nil =>
    have k0 : decide (0 < ([] : List UInt8).length) = false := rfl
    go_enter Tryz.func164, Tryz.ntmps164
    go_wp2_with fail
    clear k0
    go_loop [6] (fun iv => iv = .int .i64 0) (fun _ => 0)
    case atStart => rfl
    case round =>
      subst hrel
      go_wp2_with fail
      go_loop [4] (fun sv => sv = .string ⟨#[]⟩) (fun _ => 0)
      case atStart => rfl
      case round =>
        subst hrel
        go_wp2
        go_ret2
        exact ⟨rfl, rfl⟩
  | cons c t =>
    have k0 : decide (0 < (c :: t).length) = true := decide_eq_true (by simp)
    have k00 : 0 < (c :: t).length := by simp
    have htl : t.length ≤ 9223372036854775807 := by simp at hl; omega
    by_cases hc : ((c.toNat : Int) == 45) = true
    · have hr : IsRest (c :: t) t true := by
        have : c = 45 := UInt8.toNat_inj.1 (by rw [beq_iff_eq] at hc; exact Int.ofNat_inj.1 hc)
        subst this; exact ⟨rfl, rfl⟩
      have k2 : ∀ hp, ((((⟨(c :: t).toArray⟩ : ByteArray)[0]'hp).toNat : Int) == 45) = true := fun hp => hc
      have k4 : (⟨(c :: t).toArray⟩ : ByteArray).extract 1 (t.length + 1) = ⟨t.toArray⟩ := by rw [extract_list]; simp
      clear hc hl
      go_enter Tryz.func164, Tryz.ntmps164
      go_wp2_with fail
      clear k2 k4 k0 k00
      have HR := Lib.hid hr
      clear hr
      go_loop [6] (fun iv => ∃ k : Nat, k ≤ (t).length ∧ iv = .int .i64 (k : Int) ∧ Hid (((t).take k).all isDig = true)) (fun iv => (t).length - (intOf iv).toNat)
      case atStart => exact ⟨0, Nat.zero_le _, rfl, rfl⟩
      case round =>
        obtain ⟨k, hk, rfl, HK⟩ := hrel
        by_cases hlt : k < (t).length
        · have hlt' : k < (⟨(t).toArray⟩ : ByteArray).size := by show k < (t).toArray.size; simpa using hlt
          obtain ⟨x, hx⟩ : ∃ x, x = (⟨(t).toArray⟩ : ByteArray)[k] := ⟨_, rfl⟩
          have hxl : (t)[k]? = some x := by rw [hx]; simp [hlt]; rfl
          have HX := Lib.hid hxl
          clear hxl
          have hx2 : ∀ hp, (⟨(t).toArray⟩ : ByteArray)[k]'hp = x := fun _ => hx.symm
          clear hx
          by_cases d1 : (x.toNat : Int) < 48
          · have e1 : decide ((x.toNat : Int) < 48) = true := decide_eq_true d1
            go_wp2
            go_ret2
            exact ⟨ret2 (str_eq (digs_no (HR.out.trans_no (not_all HX.out (.inl (by omega))))).symm) (by rw [negB_no (HR.out.trans_no (not_all HX.out (.inl (by omega))))]; rfl), rfl⟩
          · have e1 : decide ((x.toNat : Int) < 48) = false := decide_eq_false d1
            by_cases d2 : 57 < (x.toNat : Int)
            · have e2 : decide (57 < (x.toNat : Int)) = true := decide_eq_true d2
              go_wp2
              go_ret2
              exact ⟨ret2 (str_eq (digs_no (HR.out.trans_no (not_all HX.out (.inr (by omega))))).symm) (by rw [negB_no (HR.out.trans_no (not_all HX.out (.inr (by omega))))]; rfl), rfl⟩
            · have e2 : decide (57 < (x.toNat : Int)) = false := decide_eq_false d2
              go_wp2
              go_round
              case rel => exact ⟨k + 1, by omega, by go_num, all_snoc HK.out HX.out (by omega) (by omega)⟩
              case measure => simp [intOf]; omega
        · have hok : ((t)).all isDig = true := by have := HK.out; rwa [List.take_of_length_le (by omega)] at this
          have HO := Lib.hid (HR.out.trans_ok hok)
          clear hok HK
          go_wp2_with fail
          go_loop [4] (fun sv => ∃ v : List UInt8, sv = .string ⟨v.toArray⟩ ∧ v.length ≤ 9223372036854775807 ∧ Hid (sig v = sig (t))) (fun sv => strLen sv)
          case atStart => exact ⟨_, rfl, by omega, rfl⟩
          case round =>
            obtain ⟨v, rfl, hvl, HT⟩ := hrel
            cases v with
            | nil =>
              have k1 : decide (0 < ([] : List UInt8).length) = false := rfl
              go_wp2
              go_ret2
              exact ⟨ret2 (str_eq (HO.out.dig HT.out (.inl rfl)).symm) (by rw [HO.out.neg HT.out (.inl rfl)]; rfl), rfl⟩
            | cons x v =>
              have k1 : decide (0 < (x :: v).length) = true := decide_eq_true (by simp)
              have k3 : 0 < (x :: v).length := by simp
              by_cases hx : ((x.toNat : Int) == 48) = true
              · have k2 : ∀ hp, ((((⟨(x :: v).toArray⟩ : ByteArray)[0]'hp).toNat : Int) == 48) = true := fun hp => hx
                have k4 : (⟨(x :: v).toArray⟩ : ByteArray).extract 1 (v.length + 1) = ⟨v.toArray⟩ := by rw [extract_list]; simp
                have HX := Lib.hid hx
                clear hx
                go_wp2
                go_round
                case rel => exact ⟨v, rfl, by simp at hvl; omega, HT.out.symm.trans (sig_zero (by have := HX.out; rw [beq_iff_eq] at this; omega)) |>.symm⟩
                case measure => show v.toArray.size < (x :: v).toArray.size; simp
              · have hx' : ((x.toNat : Int) == 48) = false := by simpa using hx
                have k2 : ∀ hp, ((((⟨(x :: v).toArray⟩ : ByteArray)[0]'hp).toNat : Int) == 48) = false := fun hp => hx'
                have hxn : x ≠ 48 := fun e => hx (by rw [e]; rfl)
                have HX := Lib.hid hxn
                clear hx hx' hxn
                go_wp2
                go_ret2
                exact ⟨ret2 (str_eq (HO.out.dig HT.out (.inr HX.out)).symm) (by rw [HO.out.neg HT.out (.inr HX.out)]; simp), rfl⟩
    · have hc' : ((c.toNat : Int) == 45) = false := by simpa using hc
      have hr : IsRest (c :: t) (c :: t) false := by
        have h1 : ¬ c = 45 := fun e => hc (by rw [e]; rfl)
        refine ⟨?_, ?_⟩
        · unfold Num.rest isNeg; simp [h1]
        · unfold isNeg; simp [h1]
      have k2 : ∀ hp, ((((⟨(c :: t).toArray⟩ : ByteArray)[0]'hp).toNat : Int) == 45) = false := fun hp => hc'
      clear hc hc' htl
      obtain ⟨u, hu⟩ : ∃ u, u = c :: t := ⟨_, rfl⟩
      rw [← hu] at hr k0 k00 k2 hl ⊢
      clear hu
      go_enter Tryz.func164, Tryz.ntmps164
      go_wp2_with fail
      clear k2 k0
      have HR := Lib.hid hr
      clear hr
      go_loop [6] (fun iv => ∃ k : Nat, k ≤ (u).length ∧ iv = .int .i64 (k : Int) ∧ Hid (((u).take k).all isDig = true)) (fun iv => (u).length - (intOf iv).toNat)
      case atStart => exact ⟨0, Nat.zero_le _, rfl, rfl⟩
      case round =>
        obtain ⟨k, hk, rfl, HK⟩ := hrel
        by_cases hlt : k < (u).length
        · have hlt' : k < (⟨(u).toArray⟩ : ByteArray).size := by show k < (u).toArray.size; simpa using hlt
          obtain ⟨x, hx⟩ : ∃ x, x = (⟨(u).toArray⟩ : ByteArray)[k] := ⟨_, rfl⟩
          have hxl : (u)[k]? = some x := by rw [hx]; simp [hlt]; rfl
          have HX := Lib.hid hxl
          clear hxl
          have hx2 : ∀ hp, (⟨(u).toArray⟩ : ByteArray)[k]'hp = x := fun _ => hx.symm
          clear hx
          by_cases d1 : (x.toNat : Int) < 48
          · have e1 : decide ((x.toNat : Int) < 48) = true := decide_eq_true d1
            go_wp2
            go_ret2
            exact ⟨ret2 (str_eq (digs_no (HR.out.trans_no (not_all HX.out (.inl (by omega))))).symm) (by rw [negB_no (HR.out.trans_no (not_all HX.out (.inl (by omega))))]; rfl), rfl⟩
          · have e1 : decide ((x.toNat : Int) < 48) = false := decide_eq_false d1
            by_cases d2 : 57 < (x.toNat : Int)
            · have e2 : decide (57 < (x.toNat : Int)) = true := decide_eq_true d2
              go_wp2
              go_ret2
              exact ⟨ret2 (str_eq (digs_no (HR.out.trans_no (not_all HX.out (.inr (by omega))))).symm) (by rw [negB_no (HR.out.trans_no (not_all HX.out (.inr (by omega))))]; rfl), rfl⟩
            · have e2 : decide (57 < (x.toNat : Int)) = false := decide_eq_false d2
              go_wp2
              go_round
              case rel => exact ⟨k + 1, by omega, by go_num, all_snoc HK.out HX.out (by omega) (by omega)⟩
              case measure => simp [intOf]; omega
        · have hok : ((u)).all isDig = true := by have := HK.out; rwa [List.take_of_length_le (by omega)] at this
          have HO := Lib.hid (HR.out.trans_ok hok)
          clear hok HK
          go_wp2_with fail
          go_loop [4] (fun sv => ∃ v : List UInt8, sv = .string ⟨v.toArray⟩ ∧ v.length ≤ 9223372036854775807 ∧ Hid (sig v = sig (u))) (fun sv => strLen sv)
          case atStart => exact ⟨_, rfl, by omega, rfl⟩
          case round =>
            obtain ⟨v, rfl, hvl, HT⟩ := hrel
            cases v with
            | nil =>
              have k1 : decide (0 < ([] : List UInt8).length) = false := rfl
              go_wp2
              go_ret2
              exact ⟨ret2 (str_eq (HO.out.dig HT.out (.inl rfl)).symm) (by rw [HO.out.neg HT.out (.inl rfl)]; rfl), rfl⟩
            | cons x v =>
              have k1 : decide (0 < (x :: v).length) = true := decide_eq_true (by simp)
              have k3 : 0 < (x :: v).length := by simp
              by_cases hx : ((x.toNat : Int) == 48) = true
              · have k2 : ∀ hp, ((((⟨(x :: v).toArray⟩ : ByteArray)[0]'hp).toNat : Int) == 48) = true := fun hp => hx
                have k4 : (⟨(x :: v).toArray⟩ : ByteArray).extract 1 (v.length + 1) = ⟨v.toArray⟩ := by rw [extract_list]; simp
                have HX := Lib.hid hx
                clear hx
                go_wp2
                go_round
                case rel => exact ⟨v, rfl, by simp at hvl; omega, HT.out.symm.trans (sig_zero (by have := HX.out; rw [beq_iff_eq] at this; omega)) |>.symm⟩
                case measure => show v.toArray.size < (x :: v).toArray.size; simp
              · have hx' : ((x.toNat : Int) == 48) = false := by simpa using hx
                have k2 : ∀ hp, ((((⟨(x :: v).toArray⟩ : ByteArray)[0]'hp).toNat : Int) == 48) = false := fun hp => hx'
                have hxn : x ≠ 48 := fun e => hx (by rw [e]; rfl)
                have HX := Lib.hid hxn
                clear hx hx' hxn
                go_wp2
                go_ret2
                exact ⟨ret2 (str_eq (HO.out.dig HT.out (.inr HX.out)).symm) (by rw [HO.out.neg HT.out (.inr HX.out)]; simp), rfl⟩
theorem sig_len (r : List UInt8) : (sig r).length ≤ r.length := (List.dropWhile_sublist _).length_le
theorem neg_tight {l : List UInt8} (h : negB l = true) : (digs l).length + 1 ≤ l.length := by
  have h1 : Num.isNeg l = true := by unfold negB at h; rw [Bool.and_eq_true] at h; exact h.1
  have h2 : (digs l).length ≤ (Num.rest l).length := by
    unfold digs
    split
    · exact sig_len _
    · exact Nat.zero_le _
  have h3 : Num.rest l = l.tail := by unfold Num.rest; rw [if_pos h1]
  have h4 : l ≠ [] := fun e => by rw [e] at h1; exact absurd h1 (by decide)
  rw [h3, List.length_tail] at h2
  have := List.length_pos_iff.2 h4
  omega
set_option maxHeartbeats 1000000 in
theorem rcanonical_big (l : List UInt8) (w : World) (hl : l.length ≤ 9223372036854775807) :
    Calls Tryz.prog 100 #[.string ⟨l.toArray⟩] w fun e w' => e = .returned (.string ⟨(canon (val l)).toArray⟩) ∧ w = w' := by
  have ha : negB l = true → ∀ w : World, (Op.stringOp .add ⟨#[45]⟩ ⟨(digs l).toArray⟩).run Tryz.prog w = .ok (.string ⟨(45 :: digs l).toArray⟩) w := fun h w => by
    have hd := neg_tight h
    rw [run_string_add_sum w ⟨#[45]⟩ ⟨(digs l).toArray⟩ (by show (#[45] : Array UInt8).size + (digs l).toArray.size ≤ _; simp; omega)]
    congr 2
  rw [canon_val]
  have hd : ∀ w : World, _ := fun w => rdigits_big l w hl
  have HD := Lib.hid hd
  clear hd
  cases hn : negB l
  · rw [hn] at HD
    clear ha
    go_enter Tryz.func100, Tryz.ntmps100
    go_wp2_with (go_at_call 164; refine (HD.out _).mono ?_; rintro e w' ⟨rfl, rfl⟩)
    go_ret
    exact ⟨rfl, rfl⟩
  · rw [hn] at HD
    have ha := ha hn
    go_enter Tryz.func100, Tryz.ntmps100
    go_wp2_with (go_at_call 164; refine (HD.out _).mono ?_; rintro e w' ⟨rfl, rfl⟩)
    go_ret
    exact ⟨rfl, rfl⟩

section
variable {l l' : List UInt8}
theorem qCanonicalBig (hl : l.length ≤ 9223372036854775807) {z : Int} (e : val l = z) : Ret 100 #[.string ⟨l.toArray⟩] (.string ⟨(canon z).toArray⟩) := fun w _ => by
  subst e; exact (rcanonical_big l w hl).mono fun e w' ⟨h, k⟩ => ⟨h, by subst k; exact Below.refl _ _⟩
theorem qCheckBig (hl : l.length ≤ 9223372036854775807) {c : Int} (e : (if l = canon (val l) then 0 else 1) = c) : Ret 39 #[.string ⟨l.toArray⟩] (.int .i64 c) := fun w hG => by
  have c1 := qCanonicalBig (l := l) hl rfl
  have hb := Below.refl w.heap.size w
  obtain ⟨X, hX⟩ : ∃ X, X = canon (val l) := ⟨_, rfl⟩
  rw [← hX] at c1 e
  have H1 := Lib.hid c1
  clear c1 hX
  by_cases h : l = X
  · rw [if_pos h] at e
    subst e
    subst h
    go_enter Tryz.func39, Tryz.ntmps39
    go_wp2_with fail
    ((with_reducible refine (H1.out.of hG hb).mono ?_); rintro e w2 ⟨rfl, hb2⟩)
    go_wp2
    go_ret
    exact ⟨rfl, bto hb hb2⟩
  · rw [if_neg h] at e
    subst e
    have e1 : (X == l) = false := by rw [beq_eq_false_iff_ne]; exact fun h1 => h h1.symm
    go_enter Tryz.func39, Tryz.ntmps39
    go_wp2_with fail
    ((with_reducible refine (H1.out.of hG hb).mono ?_); rintro e w2 ⟨rfl, hb2⟩)
    go_wp2
    go_ret
    exact ⟨rfl, bto hb hb2⟩
end
end Go.Proofs.YtmjglcgdcclinaaGreatDoor
