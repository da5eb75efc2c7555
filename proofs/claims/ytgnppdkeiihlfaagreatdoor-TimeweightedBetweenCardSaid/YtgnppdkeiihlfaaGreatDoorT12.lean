/- Texts put together: Tk Tz Wit Wf Opt Opw. -/
import Derived.Test.YtgnppdkeiihlfaaGreatDoorT11
import Derived.Test.YtgnppdkeiihlfaaGreatDoorCards
import Derived.Test.YtgnppdkeiihlfaaGreatDoorTie
import Derived.ProofKit
import Derived.Deep.DeepHandedRow
import Derived.Deep.DeepWitnessRowRef
import Derived.Deep.DeepLaidRun
import Derived.Lib.LaidTab
import Derived.Below
import Derived.Carry
import Derived.OpenShut
import Derived.Deep.Slices
import Derived.Deep.Fields
import Derived.Lib.SmallJoins
import Derived.ChangeSame
namespace Go.Proofs.YtgnppdkeiihlfaaGreatDoor
open Go.RowKit Num
set_option maxHeartbeats 2000000 in
set_option maxRecDepth 100000 in
theorem rdigits_big (l : List UInt8) (w : World) (hl : l.length ≤ 9223372036854775807) :
    Calls Tryz.prog 153 #[.string ⟨l.toArray⟩] w fun e w' => e = .returned (.tuple #[.string ⟨(digs l).toArray⟩, .bool (negB l)]) ∧ w = w' := by
  cases l with
  | nil =>
    have k0 : decide (0 < ([] : List UInt8).length) = false := rfl
    go_enter Tryz.func153, Tryz.ntmps153
    go_wp2_with fail
    clear k0
    go_loop [6] (fun iv => iv = .int .i64 0) (fun _ => 0)
    case atStart => rfl
    case round =>
      subst hrel
      go_wp2_with fail
      go_loop [4] (fun sv => sv = .string ⟨#[]⟩) (fun _ => 0)
      case atStart => rfl
      case round =>
        subst hrel
        go_wp2
        go_ret2
        exact ⟨rfl, rfl⟩
  | cons c t =>
    have k0 : decide (0 < (c :: t).length) = true := decide_eq_true (by simp)
    have k00 : 0 < (c :: t).length := by simp
    have htl : t.length ≤ 9223372036854775807 := by simp at hl; omega
    by_cases hc : ((c.toNat : Int) == 45) = true
    · have hr : IsRest (c :: t) t true := by
        have : c = 45 := UInt8.toNat_inj.1 (by rw [beq_iff_eq] at hc; exact Int.ofNat_inj.1 hc)
        subst this; exact ⟨rfl, rfl⟩
      have k2 : ∀ hp, ((((⟨(c :: t).toArray⟩ : ByteArray)[0]'hp).toNat : Int) == 45) = true := fun hp => hc
      have k4 : (⟨(c :: t).toArray⟩ : ByteArray).extract 1 (t.length + 1) = ⟨t.toArray⟩ := by rw [extract_list]; simp
      clear hc hl
      go_enter Tryz.func153, Tryz.ntmps153
      go_wp2_with fail
      clear k2 k4 k0 k00
      have HR := Lib.hid hr
      clear hr
      go_loop [6] (fun iv => ∃ k : Nat, k ≤ (t).length ∧ iv = .int .i64 (k : Int) ∧ Hid (((t).take k).all isDig = true)) (fun iv => (t).length - (intOf iv).toNat)
      case atStart => exact ⟨0, Nat.zero_le _, rfl, rfl⟩
      case round =>
        obtain ⟨k, hk, rfl, HK⟩ := hrel
        by_cases hlt : k < (t).length
        · have hlt' : k < (⟨(t).toArray⟩ : ByteArray).size := by show k < (t).toArray.size; simpa using hlt
          obtain ⟨x, hx⟩ : ∃ x, x = (⟨(t).toArray⟩ : ByteArray)[k] := ⟨_, rfl⟩
          have hxl : (t)[k]? = some x := by rw [hx]; simp [hlt]; rfl
          have HX := Lib.hid hxl
          clear hxl
          have hx2 : ∀ hp, (⟨(t).toArray⟩ : ByteArray)[k]'hp = x := fun _ => hx.symm
          clear hx
          by_cases d1 : (x.toNat : Int) < 48
          · have e1 : decide ((x.toNat : Int) < 48) = true := decide_eq_true d1
            go_wp2
            go_ret2
            exact ⟨ret2 (str_eq (digs_no (HR.out.trans_no (not_all HX.out (.inl (by omega))))).symm) (by rw [negB_no (HR.out.trans_no (not_all HX.out (.inl (by omega))))]; rfl), rfl⟩
          · have e1 : decide ((x.toNat : Int) < 48) = false := decide_eq_false d1
            by_cases d2 : 57 < (x.toNat : Int)
            · have e2 : decide (57 < (x.toNat : Int)) = true := decide_eq_true d2
              go_wp2
              go_ret2
              exact ⟨ret2 (str_eq (digs_no (HR.out.trans_no (not_all HX.out (.inr (by omega))))).symm) (by rw [negB_no (HR.out.trans_no (not_all HX.out (.inr (by omega))))]; rfl), rfl⟩
            · have e2 : decide (57 < (x.toNat : Int)) = false := decide_eq_false d2
              go_wp2
              go_round
              case rel => exact ⟨k + 1, by omega, by go_num, all_snoc HK.out HX.out (by omega) (by omega)⟩
              case measure => simp [intOf]; omega
        · have hok : ((t)).all isDig = true := by have := HK.out; rwa [List.take_of_length_le (by omega)] at this
          have HO := Lib.hid (HR.out.trans_ok hok)
          clear hok HK
          go_wp2_with fail
          go_loop [4] (fun sv => ∃ v : List UInt8, sv = .string ⟨v.toArray⟩ ∧ v.length ≤ 9223372036854775807 ∧ Hid (sig v = sig (t))) (fun sv => strLen sv)
          case atStart => exact ⟨_, rfl, by omega, rfl⟩
          case round =>
            obtain ⟨v, rfl, hvl, HT⟩ := hrel
            cases v with
            | nil =>
              have k1 : decide (0 < ([] : List UInt8).length) = false := rfl
              go_wp2
              go_ret2
              exact ⟨ret2 (str_eq (HO.out.dig HT.out (.inl rfl)).symm) (by rw [HO.out.neg HT.out (.inl rfl)]; rfl), rfl⟩
            | cons x v =>
              have k1 : decide (0 < (x :: v).length) = true := decide_eq_true (by simp)
              have k3 : 0 < (x :: v).length := by simp
              by_cases hx : ((x.toNat : Int) == 48) = true
              · have k2 : ∀ hp, ((((⟨(x :: v).toArray⟩ : ByteArray)[0]'hp).toNat : Int) == 48) = true := fun hp => hx
                have k4 : (⟨(x :: v).toArray⟩ : ByteArray).extract 1 (v.length + 1) = ⟨v.toArray⟩ := by rw [extract_list]; simp
                have HX := Lib.hid hx
                clear hx
                go_wp2
                go_round
                case rel => exact ⟨v, rfl, by simp at hvl; omega, HT.out.symm.trans (sig_zero (by have := HX.out; rw [beq_iff_eq] at this; omega)) |>.symm⟩
                case measure => show v.toArray.size < (x :: v).toArray.size; simp
              · have hx' : ((x.toNat : Int) == 48) = false := by simpa using hx
                have k2 : ∀ hp, ((((⟨(x :: v).toArray⟩ : ByteArray)[0]'hp).toNat : Int) == 48) = false := fun hp => hx'
                have hxn : x ≠ 48 := fun e => hx (by rw [e]; rfl)
                have HX := Lib.hid hxn
                clear hx hx' hxn
                go_wp2
                go_ret2
                exact ⟨ret2 (str_eq (HO.out.dig HT.out (.inr HX.out)).symm) (by rw [HO.out.neg HT.out (.inr HX.out)]; simp), rfl⟩
    · have hc' : ((c.toNat : Int) == 45) = false := by simpa using hc
      have hr : IsRest (c :: t) (c :: t) false := by
        have h1 : ¬ c = 45 := fun e => hc (by rw [e]; rfl)
        refine ⟨?_, ?_⟩
        · unfold Num.rest isNeg; simp [h1]
        · unfold isNeg; simp [h1]
      have k2 : ∀ hp, ((((⟨(c :: t).toArray⟩ : ByteArray)[0]'hp).toNat : Int) == 45) = false := fun hp => hc'
      clear hc hc' htl
      obtain ⟨u, hu⟩ : ∃ u, u = c :: t := ⟨_, rfl⟩
      rw [← hu] at hr k0 k00 k2 hl ⊢
      clear hu
      go_enter Tryz.func153, Tryz.ntmps153
      go_wp2_with fail
      clear k2 k0
      have HR := Lib.hid hr
      clear hr
      go_loop [6] (fun iv => ∃ k : Nat, k ≤ (u).length ∧ iv = .int .i64 (k : Int) ∧ Hid (((u).take k).all isDig = true)) (fun iv => (u).length - (intOf iv).toNat)
      case atStart => exact ⟨0, Nat.zero_le _, rfl, rfl⟩
      case round =>
        obtain ⟨k, hk, rfl, HK⟩ := hrel
        by_cases hlt : k < (u).length
        · have hlt' : k < (⟨(u).toArray⟩ : ByteArray).size := by show k < (u).toArray.size; simpa using hlt
          obtain ⟨x, hx⟩ : ∃ x, x = (⟨(u).toArray⟩ : ByteArray)[k] := ⟨_, rfl⟩
          have hxl : (u)[k]? = some x := by rw [hx]; simp [hlt]; rfl
          have HX := Lib.hid hxl
          clear hxl
          have hx2 : ∀ hp, (⟨(u).toArray⟩ : ByteArray)[k]'hp = x := fun _ => hx.symm
          clear hx
          by_cases d1 : (x.toNat : Int) < 48
          · have e1 : decide ((x.toNat : Int) < 48) = true := decide_eq_true d1
            go_wp2
            go_ret2
            exact ⟨ret2 (str_eq (digs_no (HR.out.trans_no (not_all HX.out (.inl (by omega))))).symm) (by rw [negB_no (HR.out.trans_no (not_all HX.out (.inl (by omega))))]; rfl), rfl⟩
          · have e1 : decide ((x.toNat : Int) < 48) = false := decide_eq_false d1
            by_cases d2 : 57 < (x.toNat : Int)
            · have e2 : decide (57 < (x.toNat : Int)) = true := decide_eq_true d2
              go_wp2
              go_ret2
              exact ⟨ret2 (str_eq (digs_no (HR.out.trans_no (not_all HX.out (.inr (by omega))))).symm) (by rw [negB_no (HR.out.trans_no (not_all HX.out (.inr (by omega))))]; rfl), rfl⟩
            · have e2 : decide (57 < (x.toNat : Int)) = false := decide_eq_false d2
              go_wp2
              go_round
              case rel => exact ⟨k + 1, by omega, by go_num, all_snoc HK.out HX.out (by omega) (by omega)⟩
              case measure => simp [intOf]; omega
        · have hok : ((u)).all isDig = true := by have := HK.out; rwa [List.take_of_length_le (by omega)] at this
          have HO := Lib.hid (HR.out.trans_ok hok)
          clear hok HK
          go_wp2_with fail
          go_loop [4] (fun sv => ∃ v : List UInt8, sv = .string ⟨v.toArray⟩ ∧ v.length ≤ 9223372036854775807 ∧ Hid (sig v = sig (u))) (fun sv => strLen sv)
          case atStart => exact ⟨_, rfl, by omega, rfl⟩
          case round =>
            obtain ⟨v, rfl, hvl, HT⟩ := hrel
            cases v with
            | nil =>
              have k1 : decide (0 < ([] : List UInt8).length) = false := rfl
              go_wp2
              go_ret2
              exact ⟨ret2 (str_eq (HO.out.dig HT.out (.inl rfl)).symm) (by rw [HO.out.neg HT.out (.inl rfl)]; rfl), rfl⟩
            | cons x v =>
              have k1 : decide (0 < (x :: v).length) = true := decide_eq_true (by simp)
              have k3 : 0 < (x :: v).length := by simp
              by_cases hx : ((x.toNat : Int) == 48) = true
              · have k2 : ∀ hp, ((((⟨(x :: v).toArray⟩ : ByteArray)[0]'hp).toNat : Int) == 48) = true := fun hp => hx
                have k4 : (⟨(x :: v).toArray⟩ : ByteArray).extract 1 (v.length + 1) = ⟨v.toArray⟩ := by rw [extract_list]; simp
                have HX := Lib.hid hx
                clear hx
                go_wp2
                go_round
                case rel => exact ⟨v, rfl, by simp at hvl; omega, HT.out.symm.trans (sig_zero (by have := HX.out; rw [beq_iff_eq] at this; omega)) |>.symm⟩
                case measure => show v.toArray.size < (x :: v).toArray.size; simp
              · have hx' : ((x.toNat : Int) == 48) = false := by simpa using hx
                have k2 : ∀ hp, ((((⟨(x :: v).toArray⟩ : ByteArray)[0]'hp).toNat : Int) == 48) = false := fun hp => hx'
                have hxn : x ≠ 48 := fun e => hx (by rw [e]; rfl)
                have HX := Lib.hid hxn
                clear hx hx' hxn
                go_wp2
                go_ret2
                exact ⟨ret2 (str_eq (HO.out.dig HT.out (.inr HX.out)).symm) (by rw [HO.out.neg HT.out (.inr HX.out)]; simp), rfl⟩
theorem sig_len (r : List UInt8) : (sig r).length ≤ r.length := (List.dropWhile_sublist _).length_le
theorem neg_tight {l : List UInt8} (h : negB l = true) : (digs l).length + 1 ≤ l.length := by
  have h1 : Num.isNeg l = true := by unfold negB at h; rw [Bool.and_eq_true] at h; exact h.1
  have h2 : (digs l).length ≤ (Num.rest l).length := by
    unfold digs
    split
    · exact sig_len _
    · exact Nat.zero_le _
  have h3 : Num.rest l = l.tail := by unfold Num.rest; rw [if_pos h1]
  have h4 : l ≠ [] := fun e => by rw [e] at h1; exact absurd h1 (by decide)
  rw [h3, List.length_tail] at h2
  have := List.length_pos_iff.2 h4
  omega
set_option maxHeartbeats 1000000 in
theorem rcanonical_big (l : List UInt8) (w : World) (hl : l.length ≤ 9223372036854775807) :
    Calls Tryz.prog 112 #[.string ⟨l.toArray⟩] w fun e w' => e = .returned (.string ⟨(canon (val l)).toArray⟩) ∧ w = w' := by
  have ha : negB l = true → ∀ w : World, (Op.stringOp .add ⟨#[45]⟩ ⟨(digs l).toArray⟩).run Tryz.prog w = .ok (.string ⟨(45 :: digs l).toArray⟩) w := fun h w => by
    have hd := neg_tight h
    rw [run_string_add_sum w ⟨#[45]⟩ ⟨(digs l).toArray⟩ (by show (#[45] : Array UInt8).size + (digs l).toArray.size ≤ _; simp; omega)]
    congr 2
  rw [canon_val]
  have hd : ∀ w : World, _ := fun w => rdigits_big l w hl
  have HD := Lib.hid hd
  clear hd
  cases hn : negB l
  · rw [hn] at HD
    clear ha
    go_enter Tryz.func112, Tryz.ntmps112
    go_wp2_with (go_at_call 153; refine (HD.out _).mono ?_; rintro e w' ⟨rfl, rfl⟩)
    go_ret
    exact ⟨rfl, rfl⟩
  · rw [hn] at HD
    have ha := ha hn
    go_enter Tryz.func112, Tryz.ntmps112
    go_wp2_with (go_at_call 153; refine (HD.out _).mono ?_; rintro e w' ⟨rfl, rfl⟩)
    go_ret
    exact ⟨rfl, rfl⟩

section
variable {l l' : List UInt8}
theorem qCanonicalBig (hl : l.length ≤ 9223372036854775807) {z : Int} (e : val l = z) : Ret 112 #[.string ⟨l.toArray⟩] (.string ⟨(canon z).toArray⟩) := fun w _ => by
  subst e; exact (rcanonical_big l w hl).mono fun e w' ⟨h, k⟩ => ⟨h, by subst k; exact Below.refl _ _⟩
theorem qCheckBig (hl : l.length ≤ 9223372036854775807) {c : Int} (e : (if l = canon (val l) then 0 else 1) = c) : Ret 52 #[.string ⟨l.toArray⟩] (.int .i64 c) := fun w hG => by
  have c1 := qCanonicalBig (l := l) hl rfl
  have hb := Below.refl w.heap.size w
  obtain ⟨X, hX⟩ : ∃ X, X = canon (val l) := ⟨_, rfl⟩
  rw [← hX] at c1 e
  have H1 := Lib.hid c1
  clear c1 hX
  by_cases h : l = X
  · rw [if_pos h] at e
    subst e
    subst h
    go_enter Tryz.func52, Tryz.ntmps52
    go_wp2_with fail
    ((with_reducible refine (H1.out.of hG hb).mono ?_); rintro e w2 ⟨rfl, hb2⟩)
    go_wp2
    go_ret
    exact ⟨rfl, bto hb hb2⟩
  · rw [if_neg h] at e
    subst e
    have e1 : (X == l) = false := by rw [beq_eq_false_iff_ne]; exact fun h1 => h h1.symm
    go_enter Tryz.func52, Tryz.ntmps52
    go_wp2_with fail
    ((with_reducible refine (H1.out.of hG hb).mono ?_); rintro e w2 ⟨rfl, hb2⟩)
    go_wp2
    go_ret
    exact ⟨rfl, bto hb hb2⟩
end
end Go.Proofs.YtgnppdkeiihlfaaGreatDoor
namespace Go.Proofs.YtgnppdkeiihlfaaGreatDoor
open Go.RowKit Num
set_option maxHeartbeats 2000000 in
theorem rcompare_big (l l' : List UInt8) (w : World) (hl : l.length ≤ 9223372036854775807) (hl' : l'.length ≤ 9223372036854775807) :
    Calls Tryz.prog 113 #[.string ⟨l.toArray⟩, .string ⟨l'.toArray⟩] w fun e w' => e = .returned (.int .i64 (cmpZ (val l) (val l'))) ∧ w = w' := by
  rw [← cmpS_eq]
  have hd : ∀ w : World, _ := fun w => rdigits_big l w hl
  have hd' : ∀ w : World, _ := fun w => rdigits_big l' w hl'
  generalize digs l = s at *
  generalize digs l' = t at *
  generalize negB l = m at *
  generalize negB l' = n at *
  have HD := Lib.hid hd
  have HD' := Lib.hid hd'
  clear hd hd'
  cases m <;> cases n
  all_goals
    go_enter Tryz.func113, Tryz.ntmps113
    go_wp2_with fail
    ((with_reducible refine (HD.out _).mono ?_); rintro e w' ⟨rfl, rfl⟩)
    go_wp2_with fail
    ((with_reducible refine (HD'.out _).mono ?_); rintro e w' ⟨rfl, rfl⟩)
    go_wp2
  all_goals go_ret
  all_goals clear HD HD'
  all_goals refine ⟨ret_int ?_, rfl⟩
  all_goals (first | rfl | (unfold cmpS; simp_all; done) | (unfold cmpS; simp_all; omega))
theorem qCompareBig {l l' : List UInt8} (hl : l.length ≤ 9223372036854775807) (hl' : l'.length ≤ 9223372036854775807) {c : Int} (e : cmpZ (val l) (val l') = c) : Ret 113 #[.string ⟨l.toArray⟩, .string ⟨l'.toArray⟩] (.int .i64 c) := fun w _ => by
  subst e; exact (rcompare_big l l' w hl hl').mono fun e w' ⟨h, k⟩ => ⟨h, by subst k; exact Below.refl _ _⟩
theorem qSignBig {l : List UInt8} (hl : l.length ≤ 9223372036854775807) {c : Int} (e : cmpZ (val l) 0 = c) : Ret 53 #[.string ⟨l.toArray⟩] (.int .i64 c) := fun w hG => by
  have c1 := qCompareBig (l := l) (l' := []) hl (by decide) (c := c) (by rw [val_nil]; exact e)
  have hb := Below.refl w.heap.size w
  have H1 := Lib.hid c1
  clear c1 e
  go_enter Tryz.func53, Tryz.ntmps53
  go_wp2_with fail
  ((with_reducible refine (H1.out.of hG hb).mono ?_); rintro e w2 ⟨rfl, hb2⟩)
  go_wp2
  go_ret
  exact ⟨rfl, bto hb hb2⟩
theorem insertQ (g n cp k vb : Nat) (cur : Array Value) (ts : List Pnt) (x : Pnt) (w : World) (hn : ts.length = n) (hk : k < n) (hnc : n ≤ cp) (hc63 : cp ≤ 9223372036854775807) (hn2 : n ≤ 1000000) (hvb : vb ≠ g)
    (hg : w.heap[g]? = some (.cells cur 74 (0, 0))) (hsz : cur.size = cp * 3) (htk : cur.toList.take (n * 3) = rowsQ ts) (hv : w.heap[vb]? = some (.cells #[.int .i64 x.day, .string ⟨x.vl.toArray⟩, .string ⟨x.fl.toArray⟩] 74 (0, 0))) :
    Calls Tryz.prog 56 #[.slice (some ⟨g, 0, none⟩) n cp, .int .i64 (k : Int), .slice (some ⟨vb, 0, none⟩) 1 1] w fun e w' =>
      ∃ C K, e = .returned (.slice (some ⟨C, 0, none⟩) (n + 1) K) ∧ n + 1 ≤ K ∧ PntAt w' (some ⟨C, 0, none⟩) (ts.take k ++ x :: ts.drop k) ∧ Below g w w' := by
  have hgl := (Array.getElem?_eq_some_iff.1 hg).1
  by_cases hroom : n + 1 ≤ cp
  · refine (insShift g n cp k vb cur ts x w hn hk hroom hc63 hvb hg hsz htk hv).mono ?_
    rintro e w' ⟨rfl, rfl⟩
    have hall : rowsQ ts = rowsQ (ts.take k) ++ rowsQ (ts.drop k) := by rw [← rowsQ_app, List.take_append_drop]
    have htl : (rowsQ (ts.take k)).length = k * 3 := by rw [rowsQ_len, List.length_take, hn]; omega
    have hdl : (rowsQ (ts.drop k)).length = (n - k) * 3 := by rw [rowsQ_len, List.length_drop, hn]
    have hg0 : w.drew.heap[g]? = some (.cells cur 74 (0, 0)) := hg
    have hsl : cur.toList.length = cp * 3 := by rw [Array.length_toList, hsz]
    obtain ⟨c1, h1, t1⟩ := set_row (rowsQ (ts.drop k)) ((k + 1) * 3) w.drew cur hg0 (by rw [hdl]; omega)
    have hl1 : c1.toList.length = cp * 3 := by
      rw [t1, List.length_append, List.length_append, List.length_take, List.length_drop, hdl, hsl, Nat.min_eq_left (by omega)]; omega
    have hs1 : c1.size = cp * 3 := by rw [← Array.length_toList]; exact hl1
    obtain ⟨c2, h2, t2⟩ := set_row [.int .i64 x.day, .string ⟨x.vl.toArray⟩, .string ⟨x.fl.toArray⟩] (k * 3) _ c1 h1 (by show k * 3 + 3 ≤ _; omega)
    have e0 : cur.toList.take (k * 3) = rowsQ (ts.take k) := by
      have h : (cur.toList.take (n * 3)).take (k * 3) = (rowsQ ts).take (k * 3) := by rw [htk]
      rw [List.take_take, Nat.min_eq_left (by omega)] at h
      rw [h, hall, List.take_left' htl]
    have e1 : c1.toList.take (k * 3) = rowsQ (ts.take k) := by
      rw [t1, List.append_assoc, List.take_append_of_le_length (by rw [List.length_take, hsl]; omega), List.take_take, Nat.min_eq_left (by omega), e0]
    have e2 : c1.toList.drop (k * 3 + 3) = rowsQ (ts.drop k) ++ cur.toList.drop ((k + 1) * 3 + (rowsQ (ts.drop k)).length) := by
      rw [t1, List.append_assoc, show k * 3 + 3 = (k + 1) * 3 by omega, List.drop_left' (by rw [List.length_take, hsl]; omega)]
    have HR := crow_of (cs := rowsQ (ts.take k ++ x :: ts.drop k)) (rest := cur.toList.drop ((k + 1) * 3 + (rowsQ (ts.drop k)).length)) h2 (by
      rw [t2, e1]
      show _ ++ _ ++ List.drop (k * 3 + 3) c1.toList = _
      rw [e2, rowsQ_mid]
      simp only [List.append_assoc])
    exact ⟨g, cp, rfl, hroom, crow_pnt HR, Lib.below_setCells g (Nat.le_refl _) _ _ (Lib.below_setCells g (Nat.le_refl _) _ _ ⟨rfl, rfl, rfl, Nat.le_refl _, fun _ _ => rfl⟩)⟩
  · refine (insGrow g n cp k vb cur ts x w hn hk hnc (by omega) hn2 hg htk hv).mono ?_
    rintro e w' ⟨K, rfl, hK, HR, hb⟩
    exact ⟨_, K, rfl, hK, crow_pnt HR, hb.mono (Nat.le_of_lt hgl)⟩
/-- a further point without a flow changes no return -/
theorem ret_mid {ts : List Pnt} {x : Pnt} {k : Nat} (h0 : pntE ts = 0) (h1 : pntE (ts.take k ++ x :: ts.drop k) = 0) (hk : 1 ≤ k) (hk2 : k < ts.length) (hx : 0 < val x.vl) (hf : x.fl = []) : retV (ts.take k ++ x :: ts.drop k) = retV ts := by
  have e : pts (ts.take k ++ x :: ts.drop k) = (pts ts).take k ++ ptZ x :: (pts ts).drop k := by
    unfold pts; rw [List.map_append, List.map_cons, List.map_take, List.map_drop]
  unfold retV
  rw [if_neg (fun h => h h1), if_neg (fun h => h h0), e, facs_mid (ptZ x) hx (by show val x.fl = 0; rw [hf]; rfl) (pts ts) k hk (by rw [pts_len]; exact hk2) 1]
end Go.Proofs.YtgnppdkeiihlfaaGreatDoor
namespace Go.Proofs.YtgnppdkeiihlfaaGreatDoor
open Go.ChangeShapes Go.WideShapes Go.ChangeAt Go.RowKit

/-- what was read in the arguments is read again where the old memory is kept -/
theorem trodAll_below {H : Type} {enc : TypeId × Value → H} {P : Program} (hl : laidOutB P = true) {W W' : World} (hb : Below W.heap.size W W') :
    ∀ (ts : List TypeId) (vs : List Value) (ds : List (DataW H)) (ps : List MemPlace), (∀ t ∈ ts, P.readableRec t = true ∧ t < P.types.size) → (∀ x ∈ ps, x.block < W.heap.size) →
      DataW.TrodAll enc P W 0 (fun _ => true) true ts vs ds ps → DataW.TrodAll enc P W' 0 (fun b => decide (b < W.heap.size)) true ts vs ds ps
  | [], vs, ds, ps, _, _, h => by
    obtain ⟨rfl, rfl, rfl⟩ := trodAll_nil h
    exact trodAll_mk0
  | t :: ts, vs, ds, ps, ht, hp, h => by
    obtain ⟨v, vs', d, ds', p, q, rfl, rfl, rfl, h1, h2⟩ := trodAll_cons h
    obtain ⟨hr, hs⟩ := ht t List.mem_cons_self
    exact trodAll_cons_mk (Below.trod hl hr hs h1 hb (fun x hx => hp x (List.mem_append_left _ hx)))
      (trodAll_below hl hb ts vs' ds' q (fun t' ht' => ht t' (List.mem_cons_of_mem _ ht')) (fun x hx => hp x (List.mem_append_right _ hx)) h2)
/-- A law's post, from 'it returned true and kept the old memory'. -/
theorem law_post {H : Type} {enc : TypeId × Value → H} {P : Program} {f : Func} {s : ChangeSpec} {W W' : World} {args : Array Value} {ds gs : List (DataW H)} {before : List MemPlace} (hl : laidOutB P = true)
    (hts : ∀ t ∈ f.params.toList, P.readableRec t = true ∧ t < P.types.size) {tb : TypeId} (hres : f.resultTypes = #[tb]) (hbool : P.underlying tb = some .bool) (hvs : s.vars = [])
    (hW : DataW.Whole enc P f.params.toList s.vars false W args.toList ds gs before) (hfn : s.fn H (ds ++ gs) = { results := [.lit (.bool true)], args := ds }) (hb : Below W.heap.size W W') :
    s.post enc P f false true false false W args (.bool true) W' := by
  have hlt : ∀ x ∈ before, x.block < W.heap.size := fun x hx => hW.lt x hx
  have hW0 := hW
  obtain ⟨p, q, hA, hV, rfl, -, -⟩ := hW
  rw [hvs] at hV
  obtain ⟨rfl, rfl⟩ := trodVars_none hV
  refine ⟨ds, [], p ++ [], [], p, [], hW0, ?_, ?_, ?_, World.keptBut_mono (fun x hx => ⟨hx, .inr (.inl (by simpa using hx))⟩) (hb.frame (· ∈ p ++ [])), fun h => by cases h⟩
  · rw [hfn, hres]
    exact trodAll_cons_mk (shut_bool hbool _) trodAll_mk0
  · rw [hfn]
    exact trodAll_below hl hb _ _ _ _ hts (fun x hx => hlt x (by simpa using hx)) hA
  · rw [hfn, hvs]
    rfl

theorem own : ownKnob Tryz.prog.godebug = none := by kernel_rfl

def cellsD : Nat → DataW Unit → List Value
  | 0, _ => []
  | _ + 1, .lit (.int k z) => [.int k z]
  | n + 1, .agg ps => ps.flatMap (cellsD n)
  | _ + 1, _ => []
def putCells (h : Array Obj) (g : Nat) (cs : List Value) : Array Obj := h.modify g fun
  | .cells _ t frozen => .cells cs.toArray t frozen
  | o => o
noncomputable def low : Nat := (World.holding Tryz.prog default ⟨#[], #[], []⟩).heap.size
noncomputable def laidWorld (os : Os) : World :=
  let w0 := World.holding Tryz.prog os ⟨#[.cells #[.string ⟨#[118, 97, 108, 117, 101, 32, 111, 117, 116, 32, 111, 102, 32, 114, 97, 110, 103, 101]⟩] 273, .cells #[.string ⟨#[105, 110, 118, 97, 108, 105, 100, 32, 115, 121, 110, 116, 97, 120]⟩] 273], #[], []⟩
  let h0 := putCells (putCells w0.heap 1 [.iface 271 (.pointer (some ⟨low, 0, none⟩))]) 0 [.iface 271 (.pointer (some ⟨low + 1, 0, none⟩))]
  let h1 := putCells (putCells h0 6 (cellsD 3 Rows.laid_math_bits_deBruijn32tab)) 7 (cellsD 3 Rows.laid_math_bits_deBruijn64tab)
  let h2 := putCells (putCells h1 2 (cellsD 3 Rows.laid_internal_strconv_uint64pow10)) 5 (cellsD 3 Rows.laid_unicode_utf8_acceptRanges)
  { w0 with heap := putCells h2 4 (cellsD 3 Rows.laid_unicode_utf8_first) }

def laidList : List (String × DataW Unit) := [("math/bits.deBruijn32tab", Rows.laid_math_bits_deBruijn32tab), ("math/bits.deBruijn64tab", Rows.laid_math_bits_deBruijn64tab), ("internal/strconv.uint64pow10", Rows.laid_internal_strconv_uint64pow10), ("unicode/utf8.acceptRanges", Rows.laid_unicode_utf8_acceptRanges), ("strconv.ErrRange", Rows.laid_strconv_ErrRange), ("strconv.ErrSyntax", Rows.laid_strconv_ErrSyntax), ("unicode/utf8.first", Rows.laid_unicode_utf8_first)]
set_option maxRecDepth 1000000 in
theorem laid_met (os : Os) (args : Array Value) : laidMet Tryz.prog laidList ((laidWorld os).forCall (fun _ _ => 0) ⟨#[], args, []⟩).memory :=
  laidMet_of_run3 10 (by kernel_rfl) (by kernel_rfl) (by kernel_rfl)
end Go.Proofs.YtgnppdkeiihlfaaGreatDoor
namespace Go.Proofs.YtgnppdkeiihlfaaGreatDoor
theorem and_t {a b : Bool} (h : a = true) (k : b = true) : (a && b) = true := by rw [h, k]; rfl
theorem pf_laid : laidOutB Tryz.prog = true := by kernel_rfl
theorem pf_maps : mapsRowed Tryz.prog = true := by kernel_rfl
theorem pf_heard : Tryz.prog.stopsHeard = true := by kernel_rfl
theorem pf_enter : Tryz.prog.mayEnter = true := by kernel_rfl
theorem pf_lifts : Tryz.prog.liftsFinal = false := by kernel_rfl
theorem pf_keys : Tryz.prog.plainKeys = true := by kernel_rfl
end Go.Proofs.YtgnppdkeiihlfaaGreatDoor
namespace Go.Proofs.YtgnppdkeiihlfaaGreatDoor
open Go.ChangeShapes Go.WideShapes Go.ChangeAt Go.RowKit Go.Deep
theorem cell_plain' {w : World} {a : Addr} {v : Value} (h : w.cell? a = some v) : a.spot = none ∧ a.block < w.heap.size := by
  unfold World.cell? at h
  split at h
  · next he =>
    split at h
    · cases h
    · next hs => exact ⟨by simpa using hs, (Array.getElem?_eq_some_iff.1 he).1⟩
  · cases h
theorem czk_int : Tryz.prog.cellsOf 3 = 1 := by kernel_rfl
theorem czk_day : Tryz.prog.cellsOf 22 = 1 := by kernel_rfl
theorem czk_ai : Tryz.prog.cellsOf 23 = 1 := by kernel_rfl
theorem czk_fr : Tryz.prog.cellsOf 25 = 2 := by kernel_rfl
theorem czk_pt : Tryz.prog.cellsOf 74 = 3 := by kernel_rfl
section
variable {H : Type} {enc : TypeId × Value → H} {w : World} {base : Nat} {spare : Nat → Bool} {held : Bool}
theorem field_at' {n : Nat} {fs : Array Field} {cs : List Value} {xs : List (DataW H × List MemPlace)} (hf : ∀ (i : Nat) (f : Field), fs[i]? = some f → DataW.trod enc Tryz.prog w base spare held n f.type ((cs.drop f.offset).take (Tryz.prog.cellsOf f.type)) = xs[i]?)
    (i : Nat) (ty : TypeId) (off : Nat) (f : Field) (h1 : fs[i]? = some f) (h2 : f.type = ty) (h3 : f.offset = off) (k : Nat) (h4 : Tryz.prog.cellsOf ty = k) (h5 : i < xs.length) : DataW.trod enc Tryz.prog w base spare held n ty ((cs.drop off).take k) = some (xs[i]'h5) := by
  have h := hf i f h1
  rw [h2, h3, h4, List.getElem?_eq_getElem h5] at h
  exact h
def ShortQ (ts : List Pnt) : Prop := ∀ t ∈ ts, t.vl.length ≤ 9223372036854775807 ∧ t.fl.length ≤ 9223372036854775807
set_option maxRecDepth 10000 in
theorem pnt_of_trod {fuel : Nat} {cs : List Value} {x : DataW H × List MemPlace} (h : DataW.trod enc Tryz.prog w base spare held fuel 74 cs = some x) : ∃ t : Pnt, cs = [.int .i64 t.day, .string ⟨t.vl.toArray⟩, .string ⟨t.fl.toArray⟩] ∧ t.vl.length ≤ 9223372036854775807 ∧ t.fl.length ≤ 9223372036854775807 := by
  obtain ⟨xs, n, -, -, hlen, hxl, hf⟩ := DataW.trod_struct Tryz.underlying74 h
  rw [czk_pt] at hlen
  have hxl : xs.length = 3 := hxl
  match cs, hlen with
  | [c0, c1, c2], _ =>
    have h0 : DataW.trod enc Tryz.prog w base spare held n 22 [c0] = some (xs[0]'(by omega)) := field_at' hf 0 22 0 _ rfl rfl rfl 1 czk_day (by omega)
    have h1 : DataW.trod enc Tryz.prog w base spare held n 23 [c1] = some (xs[1]'(by omega)) := field_at' hf 1 23 1 _ rfl rfl rfl 1 czk_ai (by omega)
    have h2 : DataW.trod enc Tryz.prog w base spare held n 23 [c2] = some (xs[2]'(by omega)) := field_at' hf 2 23 2 _ rfl rfl rfl 1 czk_ai (by omega)
    obtain ⟨s0, e0, -, -⟩ := DataW.trod_int Tryz.underlying22 h0
    injection e0 with e0
    obtain ⟨s1, e1, -, w1⟩ := DataW.trod_string Tryz.underlying23 h1
    injection e1 with e1
    obtain ⟨s2, e2, -, w2⟩ := DataW.trod_string Tryz.underlying23 h2
    injection e2 with e2
    subst e0 e1 e2
    unfold maxLen at w1
    unfold maxLen at w2
    refine ⟨⟨s0, s1.data.toList, s2.data.toList⟩, rfl, ?_, ?_⟩
    · show s1.data.toList.length ≤ _
      have : s1.size = s1.data.toList.length := by show s1.data.size = _; simp
      omega
    · show s2.data.toList.length ≤ _
      have : s2.size = s2.data.toList.length := by show s2.data.size = _; simp
      omega
set_option maxRecDepth 10000 in
theorem open_pnts {r : Reach} {b0 : Nat} {v : Value} {d : DataW H} {p : List MemPlace} (hv : Value.okWide Tryz.prog w r b0 72 v) (h : DataW.Trod enc Tryz.prog w base spare held 72 v d p) :
    ∃ (A : Option Addr) (n c : Nat) (ts : List Pnt), v = .slice A n c ∧ ts.length = n ∧ n ≤ c ∧ n ≤ 9223372036854775807 ∧ ShortQ ts ∧ PntAt w A ts := by
  obtain ⟨A, n, c, rfl⟩ := okWide_slice Tryz.underlying72 hv
  obtain ⟨fuel, hf⟩ := h
  rcases open_slice Tryz.underlying72 hf with ⟨hcs, -⟩ | ⟨a, len, cap, m, k, D, Pl, hcs, -, hl, hm, hmm, -, hi⟩
  · have hcs : [Value.slice A n c] = [.slice none 0 0] := hcs
    injection hcs with hcs
    injection hcs with h1 h2 h3
    subst h1 h2 h3
    exact ⟨none, 0, 0, [], rfl, rfl, Nat.le_refl _, by omega, fun t ht => by simp at ht, fun i x hx => by simp at hx⟩
  · have hcs : [Value.slice A n c] = [.slice (some a) len cap] := hcs
    injection hcs with hcs
    injection hcs with h1 h2 h3
    subst h1 h2 h3
    have hnm : n ≤ m := by rw [hmm]; split <;> omega
    unfold maxLen at hm
    rw [czk_pt] at hi
    have hy : ∀ i, i < n → ∃ t : Pnt, (w.cell? ((a.add (i * 3)).add 0) = some (.int .i64 t.day) ∧ w.cell? ((a.add (i * 3)).add 1) = some (.string ⟨t.vl.toArray⟩) ∧ w.cell? ((a.add (i * 3)).add 2) = some (.string ⟨t.fl.toArray⟩)) ∧ t.vl.length ≤ 9223372036854775807 ∧ t.fl.length ≤ 9223372036854775807 := fun i hin => by
      obtain ⟨cs', hc, ht⟩ := hi i (by omega)
      obtain ⟨t, hy, hlen⟩ := pnt_of_trod ht
      obtain ⟨_, hcl, hat⟩ := World.cells?_some hc
      exact ⟨t, ⟨by rw [hat 0 (by decide), hy]; rfl, by rw [hat 1 (by decide), hy]; rfl, by rw [hat 2 (by decide), hy]; rfl⟩, hlen⟩
    have hget : ∀ i t, ((List.range n).map fun i => if hin : i < n then (hy i hin).choose else ⟨0, [], []⟩)[i]? = some t → ∃ hin : i < n, (hy i hin).choose = t := fun i t hx => by
      have hin : i < n := by
        have := (List.getElem?_eq_some_iff.1 hx).1
        simpa using this
      rw [List.getElem?_map, List.getElem?_range hin] at hx
      simp only [Option.map_some, dif_pos hin, Option.some.injEq] at hx
      exact ⟨hin, hx⟩
    refine ⟨some a, n, c, (List.range n).map fun i => if hin : i < n then (hy i hin).choose else ⟨0, [], []⟩, rfl, by simp, hl, by omega, ?_, ?_⟩
    · intro t ht
      obtain ⟨i, hi⟩ := List.getElem?_of_mem ht
      obtain ⟨hin, rfl⟩ := hget i t hi
      exact (hy i hin).choose_spec.2
    · intro i t hx
      obtain ⟨hin, rfl⟩ := hget i t hx
      have hcell := (hy i hin).choose_spec.1
      obtain ⟨hs0, hbl⟩ := cell_plain' (hy 0 (by omega)).choose_spec.1.1
      generalize (hy i hin).choose = t at hcell ⊢
      obtain ⟨b, o, s⟩ := a
      have hz : ((⟨b, o, s⟩ : Addr).add (0 * 3)).add 0 = ⟨b, o, s⟩ := by simp [Addr.add]
      rw [hz] at hs0 hbl
      have hs0 : s = none := hs0
      subst hs0
      simp only [Lib.add_plain] at hcell
      exact ⟨b, o, rfl, hbl, hcell⟩
def ShortF (ts : List Fs) : Prop := ∀ t ∈ ts, t.1.length ≤ 9223372036854775807 ∧ t.2.length ≤ 9223372036854775807
set_option maxRecDepth 10000 in
theorem fs_of_trod {fuel : Nat} {cs : List Value} {x : DataW H × List MemPlace} (h : DataW.trod enc Tryz.prog w base spare held fuel 25 cs = some x) : ∃ t : Fs, cs = [.string ⟨t.1.toArray⟩, .string ⟨t.2.toArray⟩] ∧ t.1.length ≤ 9223372036854775807 ∧ t.2.length ≤ 9223372036854775807 := by
  obtain ⟨xs, n, -, -, hlen, hxl, hf⟩ := DataW.trod_struct Tryz.underlying25 h
  rw [czk_fr] at hlen
  have hxl : xs.length = 2 := hxl
  match cs, hlen with
  | [c0, c1], _ =>
    have h1 : DataW.trod enc Tryz.prog w base spare held n 23 [c0] = some (xs[0]'(by omega)) := field_at' hf 0 23 0 _ rfl rfl rfl 1 czk_ai (by omega)
    have h2 : DataW.trod enc Tryz.prog w base spare held n 23 [c1] = some (xs[1]'(by omega)) := field_at' hf 1 23 1 _ rfl rfl rfl 1 czk_ai (by omega)
    obtain ⟨s1, e1, -, w1⟩ := DataW.trod_string Tryz.underlying23 h1
    injection e1 with e1
    obtain ⟨s2, e2, -, w2⟩ := DataW.trod_string Tryz.underlying23 h2
    injection e2 with e2
    subst e1 e2
    unfold maxLen at w1
    unfold maxLen at w2
    refine ⟨(s1.data.toList, s2.data.toList), rfl, ?_, ?_⟩
    · show s1.data.toList.length ≤ _
      have : s1.size = s1.data.toList.length := by show s1.data.size = _; simp
      omega
    · show s2.data.toList.length ≤ _
      have : s2.size = s2.data.toList.length := by show s2.data.size = _; simp
      omega
set_option maxRecDepth 10000 in
theorem open_frs {r : Reach} {b0 : Nat} {v : Value} {d : DataW H} {p : List MemPlace} (hv : Value.okWide Tryz.prog w r b0 85 v) (h : DataW.Trod enc Tryz.prog w base spare held 85 v d p) :
    ∃ (A : Option Addr) (n c : Nat) (ts : List Fs), v = .slice A n c ∧ ts.length = n ∧ n ≤ c ∧ n ≤ 9223372036854775807 ∧ ShortF ts ∧ FsAt w A ts := by
  obtain ⟨A, n, c, rfl⟩ := okWide_slice Tryz.underlying85 hv
  obtain ⟨fuel, hf⟩ := h
  rcases open_slice Tryz.underlying85 hf with ⟨hcs, -⟩ | ⟨a, len, cap, m, k, D, Pl, hcs, -, hl, hm, hmm, -, hi⟩
  · have hcs : [Value.slice A n c] = [.slice none 0 0] := hcs
    injection hcs with hcs
    injection hcs with h1 h2 h3
    subst h1 h2 h3
    exact ⟨none, 0, 0, [], rfl, rfl, Nat.le_refl _, by omega, fun t ht => by simp at ht, fun i x hx => by simp at hx⟩
  · have hcs : [Value.slice A n c] = [.slice (some a) len cap] := hcs
    injection hcs with hcs
    injection hcs with h1 h2 h3
    subst h1 h2 h3
    have hnm : n ≤ m := by rw [hmm]; split <;> omega
    unfold maxLen at hm
    rw [czk_fr] at hi
    have hy : ∀ i, i < n → ∃ t : Fs, (w.cell? ((a.add (i * 2)).add 0) = some (.string ⟨t.1.toArray⟩) ∧ w.cell? ((a.add (i * 2)).add 1) = some (.string ⟨t.2.toArray⟩)) ∧ t.1.length ≤ 9223372036854775807 ∧ t.2.length ≤ 9223372036854775807 := fun i hin => by
      obtain ⟨cs', hc, ht⟩ := hi i (by omega)
      obtain ⟨t, hy, hlen⟩ := fs_of_trod ht
      obtain ⟨_, hcl, hat⟩ := World.cells?_some hc
      exact ⟨t, ⟨by rw [hat 0 (by decide), hy]; rfl, by rw [hat 1 (by decide), hy]; rfl⟩, hlen⟩
    have hget : ∀ i t, ((List.range n).map fun i => if hin : i < n then (hy i hin).choose else ([], []))[i]? = some t → ∃ hin : i < n, (hy i hin).choose = t := fun i t hx => by
      have hin : i < n := by
        have := (List.getElem?_eq_some_iff.1 hx).1
        simpa using this
      rw [List.getElem?_map, List.getElem?_range hin] at hx
      simp only [Option.map_some, dif_pos hin, Option.some.injEq] at hx
      exact ⟨hin, hx⟩
    refine ⟨some a, n, c, (List.range n).map fun i => if hin : i < n then (hy i hin).choose else ([], []), rfl, by simp, hl, by omega, ?_, ?_⟩
    · intro t ht
      obtain ⟨i, hi⟩ := List.getElem?_of_mem ht
      obtain ⟨hin, rfl⟩ := hget i t hi
      exact (hy i hin).choose_spec.2
    · intro i t hx
      obtain ⟨hin, rfl⟩ := hget i t hx
      have hcell := (hy i hin).choose_spec.1
      obtain ⟨hs0, hbl⟩ := cell_plain' (hy 0 (by omega)).choose_spec.1.1
      generalize (hy i hin).choose = t at hcell ⊢
      obtain ⟨b, o, s⟩ := a
      have hz : ((⟨b, o, s⟩ : Addr).add (0 * 2)).add 0 = ⟨b, o, s⟩ := by simp [Addr.add]
      rw [hz] at hs0 hbl
      have hs0 : s = none := hs0
      subst hs0
      simp only [Lib.add_plain] at hcell
      exact ⟨b, o, rfl, hbl, hcell⟩
end
end Go.Proofs.YtgnppdkeiihlfaaGreatDoor
namespace Go.Proofs.YtgnppdkeiihlfaaGreatDoor
open Go.ChangeShapes Go.WideShapes Go.ChangeAt Go.RowKit Go.Deep
section
variable {H : Type} {enc : TypeId × Value → H} {w : World} {base : Nat} {spare : Nat → Bool} {held : Bool}
set_option maxRecDepth 10000 in
theorem open_pnt {r : Reach} {b0 : Nat} {v : Value} {d : DataW H} {p : List MemPlace} (hv : Value.okWide Tryz.prog w r b0 74 v) (h : DataW.Trod enc Tryz.prog w base spare held 74 v d p) : ∃ t : Pnt, v = .agg #[.int .i64 t.day, .string ⟨t.vl.toArray⟩, .string ⟨t.fl.toArray⟩] ∧ t.vl.length ≤ 9223372036854775807 := by
  obtain ⟨cs, rfl, hsz⟩ := okWide_struct Tryz.underlying74 hv
  obtain ⟨fuel, hf⟩ := h
  obtain ⟨t, hx, h1, -⟩ := pnt_of_trod hf
  obtain ⟨l⟩ := cs
  exact ⟨t, by rw [show l = _ from hx], h1⟩
end
end Go.Proofs.YtgnppdkeiihlfaaGreatDoor
