/- Package money: isCode, find, Find, CheckTable; trancheref05.CheckTable, Find. -/
import Derived.Test.YtmjglcgdcclinaaGreatDoorIb
import Derived.Test.YtmjglcgdcclinaaGreatDoorIc
namespace Go.Proofs.YtmjglcgdcclinaaGreatDoor
open Go.RowKit Num
set_option maxHeartbeats 1000000 in
theorem mCode {l : List UInt8} (hl : l.length ≤ 9223372036854775807) : Ret 133 #[.string ⟨l.toArray⟩] (.bool (codeB l)) := fun w hG => by
  have hb := Below.refl w.heap.size w
  have HN : Hid (l.all codeC = false → codeB l = false) := by intro h; unfold codeB; rw [h, Bool.and_false]
  have HY : Hid (l.all codeC = true → ((l.length : Int) == 3) = codeB l) := by intro h; unfold codeB; rw [h, Bool.and_true]; by_cases h3 : l.length = 3 <;> simp [h3] <;> omega
  go_enter Tryz.func133, Tryz.ntmps133
  go_wp2_with fail
  go_loop [6] (fun iv => ∃ k : Nat, k ≤ l.length ∧ iv = .int .i64 (k : Int) ∧ Hid ((l.take k).all codeC = true)) (fun iv => l.length - (intOf iv).toNat)
  case atStart => exact ⟨0, Nat.zero_le _, rfl, rfl⟩
  case round =>
    obtain ⟨k, hk, rfl, HK⟩ := hrel
    by_cases hlt : k < l.length
    · have hlt' : k < (⟨l.toArray⟩ : ByteArray).size := by show k < l.toArray.size; simpa using hlt
      obtain ⟨x, hx⟩ : ∃ x, x = (⟨l.toArray⟩ : ByteArray)[k] := ⟨_, rfl⟩
      have hxl : l[k]? = some x := by rw [hx]; simp [hlt]; rfl
      have HX := Lib.hid hxl
      clear hxl
      have hx2 : ∀ hp, (⟨l.toArray⟩ : ByteArray)[k]'hp = x := fun _ => hx.symm
      clear hx
      by_cases d1 : (x.toNat : Int) < 65
      · have ed1 : decide ((x.toNat : Int) < 65) = true := decide_eq_true d1
        go_wp2
        go_ret
        exact ⟨retb (HN.out (all_no' HX.out (not_true_b (fun h => by have := (codeC_iff _).1 h; omega)))).symm, hb⟩
      · have ed1 : decide ((x.toNat : Int) < 65) = false := decide_eq_false d1
        by_cases d2 : 90 < (x.toNat : Int)
        · have ed2 : decide (90 < (x.toNat : Int)) = true := decide_eq_true d2
          go_wp2
          go_ret
          exact ⟨retb (HN.out (all_no' HX.out (not_true_b (fun h => by have := (codeC_iff _).1 h; omega)))).symm, hb⟩
        · have ed2 : decide (90 < (x.toNat : Int)) = false := decide_eq_false d2
          go_wp2
          go_round
          case rel => exact ⟨k + 1, by omega, by go_num, all_snoc' HK.out HX.out ((codeC_iff _).2 (by omega))⟩
          case measure => simp [intOf]; omega
    · have HK' : Hid (l.all codeC = true) := by have := HK.out; rw [List.take_of_length_le (by omega)] at this; exact this
      clear HK
      go_wp2
      go_ret
      exact ⟨retb (HY.out HK'.out), hb⟩
set_option maxHeartbeats 1000000 in
theorem jCode5L {l : List UInt8} (hl : l.length ≤ 9223372036854775807) : Ret 72 #[.string ⟨l.toArray⟩] (.bool (codeB l)) := fun w hG => by
  have hb := Below.refl w.heap.size w
  have HN : Hid (l.all codeC = false → codeB l = false) := by intro h; unfold codeB; rw [h, Bool.and_false]
  have HY : Hid (l.all codeC = true → ((l.length : Int) == 3) = codeB l) := by intro h; unfold codeB; rw [h, Bool.and_true]; by_cases h3 : l.length = 3 <;> simp [h3] <;> omega
  go_enter Tryz.func72, Tryz.ntmps72
  go_wp2_with fail
  go_loop [3] (fun iv => ∃ k : Nat, k ≤ l.length ∧ iv = .int .i64 (k : Int) ∧ Hid ((l.take k).all codeC = true)) (fun iv => l.length - (intOf iv).toNat)
  case atStart => exact ⟨0, Nat.zero_le _, rfl, rfl⟩
  case round =>
    obtain ⟨k, hk, rfl, HK⟩ := hrel
    by_cases hlt : k < l.length
    · have hlt' : k < (⟨l.toArray⟩ : ByteArray).size := by show k < l.toArray.size; simpa using hlt
      obtain ⟨x, hx⟩ : ∃ x, x = (⟨l.toArray⟩ : ByteArray)[k] := ⟨_, rfl⟩
      have hxl : l[k]? = some x := by rw [hx]; simp [hlt]; rfl
      have HX := Lib.hid hxl
      clear hxl
      have hx2 : ∀ hp, (⟨l.toArray⟩ : ByteArray)[k]'hp = x := fun _ => hx.symm
      clear hx
      by_cases d1 : (x.toNat : Int) < 65
      · have ed1 : decide ((x.toNat : Int) < 65) = true := decide_eq_true d1
        go_wp2
        go_ret
        exact ⟨retb (HN.out (all_no' HX.out (not_true_b (fun h => by have := (codeC_iff _).1 h; omega)))).symm, hb⟩
      · have ed1 : decide ((x.toNat : Int) < 65) = false := decide_eq_false d1
        by_cases d2 : 90 < (x.toNat : Int)
        · have ed2 : decide (90 < (x.toNat : Int)) = true := decide_eq_true d2
          go_wp2
          go_ret
          exact ⟨retb (HN.out (all_no' HX.out (not_true_b (fun h => by have := (codeC_iff _).1 h; omega)))).symm, hb⟩
        · have ed2 : decide (90 < (x.toNat : Int)) = false := decide_eq_false d2
          go_wp2
          go_round
          case rel => exact ⟨k + 1, by omega, by go_num, all_snoc' HK.out HX.out ((codeC_iff _).2 (by omega))⟩
          case measure => simp [intOf]; omega
    · have HK' : Hid (l.all codeC = true) := by have := HK.out; rw [List.take_of_length_le (by omega)] at this; exact this
      clear HK
      go_wp2
      go_ret
      exact ⟨retb (HY.out HK'.out), hb⟩
/-- a currency -/
structure Cur where
  code : List UInt8
  places : Int
/-- a slice of currencies -/
def CurAt (w : World) (A : Option Addr) (ts : List Cur) : Prop := ∀ (i : Nat) (t : Cur), ts[i]? = some t → ∃ b o, A = some ⟨b, o, none⟩ ∧ b < w.heap.size ∧ w.cell? ⟨b, o + i * 2, none⟩ = some (.string ⟨t.code.toArray⟩) ∧ w.cell? ⟨b, o + i * 2 + 1, none⟩ = some (.int .i64 t.places)
theorem CurAt.below {w w' : World} {A : Option Addr} {ts : List Cur} (h : CurAt w A ts) (hb : Below w.heap.size w w') : CurAt w' A ts := fun i t ht => by
  obtain ⟨b, o, rfl, h1, h2, h3⟩ := h i t ht
  exact ⟨b, o, rfl, Nat.lt_of_lt_of_le h1 hb.size, (hb.cell (p := ⟨b, o + i * 2, none⟩) h1).trans h2, (hb.cell (p := ⟨b, o + i * 2 + 1, none⟩) h1).trans h3⟩
theorem CurAt.take {w : World} {A : Option Addr} {ts : List Cur} (h : CurAt w A ts) (k : Nat) : CurAt w A (ts.take k) := fun i t ht => by
  rw [List.getElem?_take] at ht
  split at ht
  · exact h i t ht
  · cases ht
/-- the first currency with a code -/
def findT (ts : List Cur) (code : List UInt8) : Option Cur := ts.find? (fun t => t.code == code)
theorem findT_drop {ts : List Cur} {code : List UInt8} {k : Nat} {t : Cur} (h : ts[k]? = some t) : findT (ts.drop k) code = if t.code = code then some t else findT (ts.drop (k + 1)) code := by
  obtain ⟨hk, rfl⟩ := List.getElem?_eq_some_iff.1 h
  unfold findT
  rw [List.drop_eq_getElem_cons hk, List.find?_cons]
  by_cases h1 : ts[k].code = code
  · rw [if_pos h1]; simp [h1]
  · rw [if_neg h1]
    have : (ts[k].code == code) = false := by rw [beq_eq_false_iff_ne]; exact h1
    rw [this]
def curV : Option Cur → Value
  | some t => .tuple #[.agg #[.string ⟨t.code.toArray⟩, .int .i64 t.places], .bool true]
  | none => .tuple #[.agg #[.string ⟨#[]⟩, .int .i64 0], .bool false]
theorem mFindClo (t : Cur) (code : List UInt8) (bc : Nat) (w : World) (hc : w.cell? ⟨bc, 0, none⟩ = some (.string ⟨code.toArray⟩)) (hlt : bc < w.heap.size) {r : Bool} (hr : (t.code == code) = r) :
    Calls Tryz.prog 132 #[.agg #[.string ⟨t.code.toArray⟩, .int .i64 t.places], .pointer (some ⟨bc, 0, none⟩)] w fun e w' => e = .returned (.bool r) ∧ Below w.heap.size w w' := by
  have hb := below_alloc w (.cells #[.string ⟨t.code.toArray⟩, .int .i64 t.places] 82)
  have q0 := (hb.cell (p := ⟨bc, 0, none⟩) hlt).trans hc
  go_enter Tryz.func132, Tryz.ntmps132
  go_wp2
  go_ret
  exact ⟨rfl, hb⟩
set_option maxHeartbeats 2000000 in
set_option maxRecDepth 100000 in
theorem mfind (A : Option Addr) (ts : List Cur) (c : Nat) (code : List UInt8) (bc : Nat) (w : World) (hn : ts.length ≤ 1000000000) (h : CurAt w A ts) (hc : w.cell? ⟨bc, 0, none⟩ = some (.string ⟨code.toArray⟩)) (hlt : bc < w.heap.size) :
    Calls Tryz.prog 131 #[.slice A ts.length c, .func (Fn.func 132) #[] #[.pointer (some ⟨bc, 0, none⟩)]] w fun e w' => e = .returned (curV (findT ts code)) ∧ Below w.heap.size w w' := by
  have HI := Lib.hid h
  have HC := Lib.hid hc
  have x4 := FBox.new w (.string ⟨#[]⟩) (.int .i64 0) 82
  have hb0 := below_alloc w (.cells #[.string ⟨#[]⟩, .int .i64 0] 82)
  clear h hc
  go_enter Tryz.func131, Tryz.ntmps131
  go_wp2_with fail
  go_loopw [11] (fun iv wr => ∃ k : Nat, k ≤ ts.length ∧ iv = .int .i64 (k : Int) ∧ Hid (findT ts code = findT (ts.drop k) code) ∧ FBox wr w.heap.size (.string ⟨#[]⟩) (.int .i64 0) ∧ Below w.heap.size w wr) (fun iv _ => ts.length - (intOf iv).toNat)
  case atStart => exact ⟨0, Nat.zero_le _, rfl, rfl, x4, hb0⟩
  case round =>
    obtain ⟨k, hk, rfl, HK, y4, hb⟩ := hrel
    by_cases hlk : k < ts.length
    · obtain ⟨t, ht⟩ : ∃ t, ts[k]? = some t := ⟨_, List.getElem?_eq_getElem hlk⟩
      obtain ⟨b, o, rfl, hbs, p0, p1⟩ := (HI.out.below hb) k t ht
      have HD := Lib.hid (findT_drop (code := code) ht)
      have hbA := below_alloc wr (.cells #[.string ⟨t.code.toArray⟩, .int .i64 t.places] 82)
      have x7 := FBox.new wr (.string ⟨t.code.toArray⟩) (.int .i64 t.places) 82
      have qc := ((bto hb hbA).cell (p := ⟨bc, 0, none⟩) hlt).trans HC.out
      have hlt2 : bc < (wr.alloc (.cells #[.string ⟨t.code.toArray⟩, .int .i64 t.places] 82)).heap.size := Nat.lt_of_lt_of_le hlt (bto hb hbA).size
      have CF := Lib.hid (fun r hr => mFindClo t code bc _ qc hlt2 (r := r) hr)
      replace y4 := y4.below hbA
      replace hb := bto hb hbA
      clear ht hbA qc hlt2
      by_cases he : t.code = code
      · have e1 : (t.code == code) = true := by rw [beq_iff_eq]; exact he
        have H1 := Lib.hid (CF.out true e1)
        have HV : Hid (curV (findT ts code) = curV (some t)) := by show _ = _; rw [HK.out, HD.out, if_pos he]
        clear CF e1 he HD HK
        go_wp2_with fail
        ((with_reducible refine H1.out.mono ?_); rintro e w2 ⟨rfl, hb2⟩)
        replace y4 := y4.below hb2
        replace x7 := x7.below hb2
        replace hb := bto hb hb2
        have q0 := y4.c0
        have q1 := y4.c1
        have q2 := y4.f0
        have q3 := y4.f1
        have q4 := x7.c0
        have q5 := x7.c1
        go_wp2
        have hy := y4.set (.string ⟨t.code.toArray⟩) (.int .i64 t.places)
        have d0 := hy.c0
        have d1 := hy.c1
        refine bodyPost_ret (v := .tuple #[.agg #[.string ⟨t.code.toArray⟩, .int .i64 t.places], .bool true]) (by simp [results, Tryz.results131, go_sem, d0, d1]) rfl ?_
        exact ⟨by rw [HV.out]; rfl, below_set2 hb (Nat.le_refl _) _ _⟩
      · have e1 : (t.code == code) = false := by rw [beq_eq_false_iff_ne]; exact he
        have H1 := Lib.hid (CF.out false e1)
        have HV : Hid (findT ts code = findT (ts.drop (k + 1)) code) := by show _ = _; rw [HK.out, HD.out, if_neg he]
        clear CF e1 he HD HK
        go_wp2_with fail
        ((with_reducible refine H1.out.mono ?_); rintro e w2 ⟨rfl, hb2⟩)
        replace y4 := y4.below hb2
        replace hb := bto hb hb2
        clear hb2 x7 H1
        go_wp2
        go_roundw
        case rel => exact ⟨k + 1, by omega, by go_num, HV, y4, hb⟩
        case measure => simp [intOf]; omega
    · have HV : Hid (curV (findT ts code) = curV none) := by show _ = _; rw [HK.out, List.drop_of_length_le (by omega)]; rfl
      have hbA := below_alloc wr (.cells #[.string ⟨#[]⟩, .int .i64 0] 82)
      replace y4 := y4.below hbA
      replace hb := bto hb hbA
      have q0 := y4.c0
      have q1 := y4.c1
      have q2 := y4.f0
      have q3 := y4.f1
      clear hbA
      go_wp2
      have hy := y4.set (.string ⟨#[]⟩) (.int .i64 0)
      have d0 := hy.c0
      have d1 := hy.c1
      refine bodyPost_ret (v := .tuple #[.agg #[.string ⟨#[]⟩, .int .i64 0], .bool false]) (by simp [results, Tryz.results131, go_sem, d0, d1]) rfl ?_
      exact ⟨by rw [HV.out]; rfl, below_set2 hb (Nat.le_refl _) _ _⟩
end Go.Proofs.YtmjglcgdcclinaaGreatDoor
