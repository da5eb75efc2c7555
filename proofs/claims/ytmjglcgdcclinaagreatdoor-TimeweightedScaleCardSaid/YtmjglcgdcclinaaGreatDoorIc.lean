/- Package instrument and trancheref10: days, digits, states. -/
import Derived.Test.YtmjglcgdcclinaaGreatDoorIb
namespace Go.Proofs.YtmjglcgdcclinaaGreatDoor
open Go.RowKit Num
/-- an instrument -/
structure Ins where
  id : List UInt8
  kind : Int
  cur : List UInt8
  places : Int
  issued : Int
  matures : Int
  fn : List UInt8
  fd : List UInt8
  cn : List UInt8
  cd : List UInt8
  months : Int
  count : Int
  other : List UInt8
  sn : List UInt8
  sd : List UInt8
theorem iValid (d : Int) : Ret 136 #[.int .i64 d] (.bool (dayB d)) := fun w hG => by
  by_cases h1 : -25567 ≤ d
  · have e1 : decide (-25567 ≤ d) = true := decide_eq_true h1
    have HV : Hid (dayB d = decide (d ≤ 84005)) := by show _ = _; unfold dayB; rw [e1]; rfl
    go_enter Tryz.func136, Tryz.ntmps136
    go_wp2
    go_ret
    exact ⟨retb HV.out.symm, Below.refl _ _⟩
  · have e1 : decide (-25567 ≤ d) = false := decide_eq_false h1
    have HV : Hid (dayB d = false) := by show _ = _; unfold dayB; rw [e1]; rfl
    go_enter Tryz.func136, Tryz.ntmps136
    go_wp2
    go_ret
    exact ⟨retb HV.out.symm, Below.refl _ _⟩
theorem jDay (d : Int) : Ret 94 #[.int .i64 d] (.int .i64 (dayE d)) := fun w hG => by
  by_cases h1 : d < -25567
  · have e1 : decide (d < -25567) = true := decide_eq_true h1
    have HV : Hid (dayE d = 13) := by show _ = _; unfold dayE dayB; rw [decide_eq_false (by omega)]; rfl
    go_enter Tryz.func94, Tryz.ntmps94
    go_wp2
    go_ret
    exact ⟨reti HV.out.symm, Below.refl _ _⟩
  · have e1 : decide (d < -25567) = false := decide_eq_false h1
    by_cases h2 : 84005 < d
    · have e2 : decide (84005 < d) = true := decide_eq_true h2
      have HV : Hid (dayE d = 13) := by show _ = _; unfold dayE dayB; rw [decide_eq_false (p := d ≤ 84005) (by omega), Bool.and_false]; rfl
      go_enter Tryz.func94, Tryz.ntmps94
      go_wp2
      go_ret
      exact ⟨reti HV.out.symm, Below.refl _ _⟩
    · have e2 : decide (84005 < d) = false := decide_eq_false h2
      have HV : Hid (dayE d = 0) := by show _ = _; unfold dayE dayB; rw [decide_eq_true (by omega), decide_eq_true (by omega)]; rfl
      go_enter Tryz.func94, Tryz.ntmps94
      go_wp2
      go_ret
      exact ⟨reti HV.out.symm, Below.refl _ _⟩
def digN : List UInt8 → Int
  | [] => 0
  | c :: t => if c.toNat = 45 then t.length else t.length + 1
theorem digN_le (l : List UInt8) : 0 ≤ digN l ∧ digN l ≤ l.length := by
  cases l with
  | nil => exact ⟨by decide, by decide⟩
  | cons c t =>
    show 0 ≤ (if c.toNat = 45 then (t.length : Int) else t.length + 1) ∧ (if c.toNat = 45 then (t.length : Int) else t.length + 1) ≤ ((t.length + 1 : Nat) : Int)
    split <;> omega
theorem iDigits {l : List UInt8} (hl : l.length ≤ 1000000) : Ret 187 #[.string ⟨l.toArray⟩] (.int .i64 (digN l)) := fun w hG => by
  cases l with
  | nil =>
    go_enter Tryz.func187, Tryz.ntmps187
    go_wp2
    go_ret
    exact ⟨rfl, Below.refl _ _⟩
  | cons c t =>
    have htl : t.length ≤ 1000000 := by simp only [List.length_cons] at hl; omega
    have k1 : ((c :: t) == []) = false := rfl
    have k3 : (c :: t).isEmpty = false := rfl
    by_cases hc : c.toNat = 45
    · have k2 : ∀ hp, ((((⟨(c :: t).toArray⟩ : ByteArray)[0]'hp).toNat : Int) == 45) = true := fun hp => by rw [beq_iff_eq]; show ((c.toNat : Nat) : Int) = 45; omega
      have HV : Hid (digN (c :: t) = t.length) := if_pos hc
      clear hc
      go_enter Tryz.func187, Tryz.ntmps187
      go_wp2
      go_ret
      exact ⟨reti (by have h := HV.out; omega), Below.refl _ _⟩
    · have k2 : ∀ hp, ((((⟨(c :: t).toArray⟩ : ByteArray)[0]'hp).toNat : Int) == 45) = false := fun hp => by rw [beq_eq_false_iff_ne]; show ¬ ((c.toNat : Nat) : Int) = 45; omega
      have HV : Hid (digN (c :: t) = t.length + 1) := if_neg hc
      clear hc
      go_enter Tryz.func187, Tryz.ntmps187
      go_wp2
      go_ret
      exact ⟨reti (by have h := HV.out; omega), Below.refl _ _⟩
theorem jDigits {l : List UInt8} (hl : l.length ≤ 1000000) : Ret 95 #[.string ⟨l.toArray⟩] (.int .i64 (digN l)) := fun w hG => by
  cases l with
  | nil =>
    have k1 : decide (0 < ([] : List UInt8).length) = false := rfl
    go_enter Tryz.func95, Tryz.ntmps95
    go_wp2
    go_ret
    exact ⟨rfl, Below.refl _ _⟩
  | cons c t =>
    have htl : t.length ≤ 1000000 := by simp only [List.length_cons] at hl; omega
    have k1 : decide (0 < (c :: t).length) = true := decide_eq_true (by simp)
    have k3 : 0 < (c :: t).length := by simp
    by_cases hc : c.toNat = 45
    · have k2 : ∀ hp, ((((⟨(c :: t).toArray⟩ : ByteArray)[0]'hp).toNat : Int) == 45) = true := fun hp => by rw [beq_iff_eq]; show ((c.toNat : Nat) : Int) = 45; omega
      have HV : Hid (digN (c :: t) = t.length) := if_pos hc
      clear hc
      go_enter Tryz.func95, Tryz.ntmps95
      go_wp2
      go_ret
      exact ⟨reti (by have h := HV.out; omega), Below.refl _ _⟩
    · have k2 : ∀ hp, ((((⟨(c :: t).toArray⟩ : ByteArray)[0]'hp).toNat : Int) == 45) = false := fun hp => by rw [beq_eq_false_iff_ne]; show ¬ ((c.toNat : Nat) : Int) = 45; omega
      have HV : Hid (digN (c :: t) = t.length + 1) := if_neg hc
      clear hc
      go_enter Tryz.func95, Tryz.ntmps95
      go_wp2
      go_ret
      exact ⟨reti (by have h := HV.out; omega), Below.refl _ _⟩
/-! States. -/
def stOf (x : Ins) (d : Int) : Int := if d < x.issued then 1 else if x.matures ≠ 0 ∧ x.matures < d then 3 else 2
set_option maxRecDepth 100000 in
theorem iState0 (x : Ins) (d : Int) : Ret 141 #[(Value.agg #[Value.string ⟨List.toArray x.id⟩, Value.int .i64 x.kind, Value.string ⟨List.toArray x.cur⟩, Value.int .i64 x.places, Value.int .i64 x.issued, Value.int .i64 x.matures, Value.string ⟨List.toArray x.fn⟩, Value.string ⟨List.toArray x.fd⟩, Value.string ⟨List.toArray x.cn⟩, Value.string ⟨List.toArray x.cd⟩, Value.int .i64 x.months, Value.int .i64 x.count, Value.string ⟨List.toArray x.other⟩, Value.string ⟨List.toArray x.sn⟩, Value.string ⟨List.toArray x.sd⟩]), .int .i64 d] (.int .i64 (stOf x d)) := fun w hG => by
  have hb := below_alloc w (.cells #[Value.string ⟨List.toArray x.id⟩, Value.int .i64 x.kind, Value.string ⟨List.toArray x.cur⟩, Value.int .i64 x.places, Value.int .i64 x.issued, Value.int .i64 x.matures, Value.string ⟨List.toArray x.fn⟩, Value.string ⟨List.toArray x.fd⟩, Value.string ⟨List.toArray x.cn⟩, Value.string ⟨List.toArray x.cd⟩, Value.int .i64 x.months, Value.int .i64 x.count, Value.string ⟨List.toArray x.other⟩, Value.string ⟨List.toArray x.sn⟩, Value.string ⟨List.toArray x.sd⟩] 34)
  by_cases h1 : d < x.issued
  · have e1 : decide (d < x.issued) = true := decide_eq_true h1
    have HV : Hid (stOf x d = 1) := by show _ = _; unfold stOf; rw [if_pos h1]
    go_enter Tryz.func141, Tryz.ntmps141
    go_wp2
    go_ret
    exact ⟨reti HV.out.symm, hb⟩
  · have e1 : decide (d < x.issued) = false := decide_eq_false h1
    by_cases h2 : x.matures = 0
    · have e2 : (x.matures == 0) = true := by rw [beq_iff_eq]; exact h2
      have e3 := bneq e2
      have HV : Hid (stOf x d = 2) := by show _ = _; unfold stOf; rw [if_neg h1, if_neg (fun h => h.1 h2)]
      clear h2
      go_enter Tryz.func141, Tryz.ntmps141
      go_wp2
      go_ret
      exact ⟨reti HV.out.symm, hb⟩
    · have e2 : (x.matures == 0) = false := by rw [beq_eq_false_iff_ne]; exact h2
      have e3 := bneq' e2
      by_cases h3 : x.matures < d
      · have e4 : decide (x.matures < d) = true := decide_eq_true h3
        have HV : Hid (stOf x d = 3) := by show _ = _; unfold stOf; rw [if_neg h1, if_pos ⟨h2, h3⟩]
        clear h2
        go_enter Tryz.func141, Tryz.ntmps141
        go_wp2
        go_ret
        exact ⟨reti HV.out.symm, hb⟩
      · have e4 : decide (x.matures < d) = false := decide_eq_false h3
        have HV : Hid (stOf x d = 2) := by show _ = _; unfold stOf; rw [if_neg h1, if_neg (fun h => h3 h.2)]
        clear h2
        go_enter Tryz.func141, Tryz.ntmps141
        go_wp2
        go_ret
        exact ⟨reti HV.out.symm, hb⟩
end Go.Proofs.YtmjglcgdcclinaaGreatDoor
