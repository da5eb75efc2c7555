/- Texts put together: Bh Ia Ib Ic Ma Mb Mc Mp Mz Mr Bq Br Tr Bx Bt. -/
import Derived.Test.YtgnppdkeiihlfaaGreatDoorMBk
import Derived.Laws.IdiomStrings
import Derived.Shelf.SlicesE.Clone
import Derived.Laws.StructEq
import Derived.OrdersIn
import Derived.TacticsIn
namespace Go.Proofs.YtgnppdkeiihlfaaGreatDoor
open Go.RowKit Num
theorem all_snoc' {p : UInt8 → Bool} {r : List UInt8} {k : Nat} {x : UInt8} (h : (r.take k).all p = true) (hx : r[k]? = some x) (h1 : p x = true) : (r.take (k + 1)).all p = true := by
  obtain ⟨hk, rfl⟩ := List.getElem?_eq_some_iff.1 hx
  rw [List.take_succ_eq_append_getElem hk, List.all_append, h]
  simp [h1]
theorem all_no' {p : UInt8 → Bool} {r : List UInt8} {k : Nat} {x : UInt8} (hx : r[k]? = some x) (h1 : p x = false) : r.all p = false := by
  rw [List.all_eq_false]; exact ⟨x, List.mem_of_getElem? hx, by simp [h1]⟩
theorem retb {a b : Bool} (h : a = b) : Ending.returned (.bool a) = .returned (.bool b) := by rw [h]
theorem bneq {a b : Int} (h : (a == b) = true) : (a != b) = false := by simp [bne, h]
theorem bneq' {a b : Int} (h : (a == b) = false) : (a != b) = true := by simp [bne, h]
theorem not_true_b {b : Bool} (h : ¬ b = true) : b = false := by cases b <;> simp_all
theorem reti {a b : Int} (h : a = b) : Ending.returned (.int .i64 a) = .returned (.int .i64 b) := by rw [h]
/-- a block that is known whole -/
def Blk (w : World) (b : Nat) (cs : Array Value) : Prop := ∃ t, w.heap[b]? = some (.cells cs t (0, 0))
section
variable {w w' : World} {b : Nat} {cs : Array Value}
theorem Blk.new (w : World) (cs : Array Value) (t : TypeId) : Blk (w.alloc (.cells cs t)) w.heap.size cs := ⟨t, heap_alloc_new w _⟩
theorem Blk.below (h : Blk w b cs) (hb : Below w.heap.size w w') : Blk w' b cs := by
  obtain ⟨t, h⟩ := h
  exact ⟨t, (hb.block b (Array.getElem?_eq_some_iff.1 h).1).trans h⟩
theorem Blk.c (h : Blk w b cs) (i : Nat) : w.cell? ⟨b, i, none⟩ = cs[i]? := by
  obtain ⟨t, h⟩ := h
  exact blk_cell h i
theorem Blk.f (h : Blk w b cs) (i : Nat) : w.frozen? ⟨b, i, none⟩ = false := by
  obtain ⟨t, h⟩ := h
  exact blk_frozen h i
theorem Blk.lt (h : Blk w b cs) : b < w.heap.size := by
  obtain ⟨t, h⟩ := h
  exact (Array.getElem?_eq_some_iff.1 h).1
end
theorem intbeq {a b : Int} (h : a = b) : (a == b) = true := by rw [beq_iff_eq]; exact h
theorem intbne {a b : Int} (h : ¬ a = b) : (a == b) = false := by rw [beq_eq_false_iff_ne]; exact h
end Go.Proofs.YtgnppdkeiihlfaaGreatDoor
namespace Go.Proofs.YtgnppdkeiihlfaaGreatDoor
open Go.RowKit Num
def codeC (c : UInt8) : Bool := decide (65 ≤ c.toNat) && decide (c.toNat ≤ 90)
def codeB (l : List UInt8) : Bool := decide (l.length = 3) && l.all codeC
end Go.Proofs.YtgnppdkeiihlfaaGreatDoor
namespace Go.Proofs.YtgnppdkeiihlfaaGreatDoor
open Go.RowKit Num
theorem codeC_iff (c : UInt8) : codeC c = true ↔ 65 ≤ c.toNat ∧ c.toNat ≤ 90 := by simp [codeC]
end Go.Proofs.YtgnppdkeiihlfaaGreatDoor
namespace Go.Proofs.YtgnppdkeiihlfaaGreatDoor
open Go.RowKit Num
/-! States. -/
end Go.Proofs.YtgnppdkeiihlfaaGreatDoor
namespace Go.Proofs.YtgnppdkeiihlfaaGreatDoor
open Go.RowKit Num
set_option maxHeartbeats 1000000 in
theorem mCode {l : List UInt8} (hl : l.length ≤ 9223372036854775807) : Ret 109 #[.string ⟨l.toArray⟩] (.bool (codeB l)) := fun w hG => by
  have hb := Below.refl w.heap.size w
  have HN : Hid (l.all codeC = false → codeB l = false) := by intro h; unfold codeB; rw [h, Bool.and_false]
  have HY : Hid (l.all codeC = true → ((l.length : Int) == 3) = codeB l) := by intro h; unfold codeB; rw [h, Bool.and_true]; by_cases h3 : l.length = 3 <;> simp [h3] <;> omega
  go_enter Tryz.func109, Tryz.ntmps109
  go_wp2_with fail
  go_loop [6] (fun iv => ∃ k : Nat, k ≤ l.length ∧ iv = .int .i64 (k : Int) ∧ Hid ((l.take k).all codeC = true)) (fun iv => l.length - (intOf iv).toNat)
  case atStart => exact ⟨0, Nat.zero_le _, rfl, rfl⟩
  case round =>
    obtain ⟨k, hk, rfl, HK⟩ := hrel
    by_cases hlt : k < l.length
    · have hlt' : k < (⟨l.toArray⟩ : ByteArray).size := by show k < l.toArray.size; simpa using hlt
      obtain ⟨x, hx⟩ : ∃ x, x = (⟨l.toArray⟩ : ByteArray)[k] := ⟨_, rfl⟩
      have hxl : l[k]? = some x := by rw [hx]; simp [hlt]; rfl
      have HX := Lib.hid hxl
      clear hxl
      have hx2 : ∀ hp, (⟨l.toArray⟩ : ByteArray)[k]'hp = x := fun _ => hx.symm
      clear hx
      by_cases d1 : (x.toNat : Int) < 65
      · have ed1 : decide ((x.toNat : Int) < 65) = true := decide_eq_true d1
        go_wp2
        go_ret
        exact ⟨retb (HN.out (all_no' HX.out (not_true_b (fun h => by have := (codeC_iff _).1 h; omega)))).symm, hb⟩
      · have ed1 : decide ((x.toNat : Int) < 65) = false := decide_eq_false d1
        by_cases d2 : 90 < (x.toNat : Int)
        · have ed2 : decide (90 < (x.toNat : Int)) = true := decide_eq_true d2
          go_wp2
          go_ret
          exact ⟨retb (HN.out (all_no' HX.out (not_true_b (fun h => by have := (codeC_iff _).1 h; omega)))).symm, hb⟩
        · have ed2 : decide (90 < (x.toNat : Int)) = false := decide_eq_false d2
          go_wp2
          go_round
          case rel => exact ⟨k + 1, by omega, by go_num, all_snoc' HK.out HX.out ((codeC_iff _).2 (by omega))⟩
          case measure => simp [intOf]; omega
    · have HK' : Hid (l.all codeC = true) := by have := HK.out; rw [List.take_of_length_le (by omega)] at this; exact this
      clear HK
      go_wp2
      go_ret
      exact ⟨retb (HY.out HK'.out), hb⟩
set_option maxHeartbeats 1000000 in
theorem jCode5L {l : List UInt8} (hl : l.length ≤ 9223372036854775807) : Ret 110 #[.string ⟨l.toArray⟩] (.bool (codeB l)) := fun w hG => by
  have hb := Below.refl w.heap.size w
  have HN : Hid (l.all codeC = false → codeB l = false) := by intro h; unfold codeB; rw [h, Bool.and_false]
  have HY : Hid (l.all codeC = true → ((l.length : Int) == 3) = codeB l) := by intro h; unfold codeB; rw [h, Bool.and_true]; by_cases h3 : l.length = 3 <;> simp [h3] <;> omega
  go_enter Tryz.func110, Tryz.ntmps110
  go_wp2_with fail
  go_loop [3] (fun iv => ∃ k : Nat, k ≤ l.length ∧ iv = .int .i64 (k : Int) ∧ Hid ((l.take k).all codeC = true)) (fun iv => l.length - (intOf iv).toNat)
  case atStart => exact ⟨0, Nat.zero_le _, rfl, rfl⟩
  case round =>
    obtain ⟨k, hk, rfl, HK⟩ := hrel
    by_cases hlt : k < l.length
    · have hlt' : k < (⟨l.toArray⟩ : ByteArray).size := by show k < l.toArray.size; simpa using hlt
      obtain ⟨x, hx⟩ : ∃ x, x = (⟨l.toArray⟩ : ByteArray)[k] := ⟨_, rfl⟩
      have hxl : l[k]? = some x := by rw [hx]; simp [hlt]; rfl
      have HX := Lib.hid hxl
      clear hxl
      have hx2 : ∀ hp, (⟨l.toArray⟩ : ByteArray)[k]'hp = x := fun _ => hx.symm
      clear hx
      by_cases d1 : (x.toNat : Int) < 65
      · have ed1 : decide ((x.toNat : Int) < 65) = true := decide_eq_true d1
        go_wp2
        go_ret
        exact ⟨retb (HN.out (all_no' HX.out (not_true_b (fun h => by have := (codeC_iff _).1 h; omega)))).symm, hb⟩
      · have ed1 : decide ((x.toNat : Int) < 65) = false := decide_eq_false d1
        by_cases d2 : 90 < (x.toNat : Int)
        · have ed2 : decide (90 < (x.toNat : Int)) = true := decide_eq_true d2
          go_wp2
          go_ret
          exact ⟨retb (HN.out (all_no' HX.out (not_true_b (fun h => by have := (codeC_iff _).1 h; omega)))).symm, hb⟩
        · have ed2 : decide (90 < (x.toNat : Int)) = false := decide_eq_false d2
          go_wp2
          go_round
          case rel => exact ⟨k + 1, by omega, by go_num, all_snoc' HK.out HX.out ((codeC_iff _).2 (by omega))⟩
          case measure => simp [intOf]; omega
    · have HK' : Hid (l.all codeC = true) := by have := HK.out; rw [List.take_of_length_le (by omega)] at this; exact this
      clear HK
      go_wp2
      go_ret
      exact ⟨retb (HY.out HK'.out), hb⟩
/-- a currency -/
structure Cur where
  code : List UInt8
  places : Int
/-- a slice of currencies -/
def CurAt (w : World) (A : Option Addr) (ts : List Cur) : Prop := ∀ (i : Nat) (t : Cur), ts[i]? = some t → ∃ b o, A = some ⟨b, o, none⟩ ∧ b < w.heap.size ∧ w.cell? ⟨b, o + i * 2, none⟩ = some (.string ⟨t.code.toArray⟩) ∧ w.cell? ⟨b, o + i * 2 + 1, none⟩ = some (.int .i64 t.places)
theorem CurAt.below {w w' : World} {A : Option Addr} {ts : List Cur} (h : CurAt w A ts) (hb : Below w.heap.size w w') : CurAt w' A ts := fun i t ht => by
  obtain ⟨b, o, rfl, h1, h2, h3⟩ := h i t ht
  exact ⟨b, o, rfl, Nat.lt_of_lt_of_le h1 hb.size, (hb.cell (p := ⟨b, o + i * 2, none⟩) h1).trans h2, (hb.cell (p := ⟨b, o + i * 2 + 1, none⟩) h1).trans h3⟩
theorem CurAt.take {w : World} {A : Option Addr} {ts : List Cur} (h : CurAt w A ts) (k : Nat) : CurAt w A (ts.take k) := fun i t ht => by
  rw [List.getElem?_take] at ht
  split at ht
  · exact h i t ht
  · cases ht
/-- the first currency with a code -/
def findT (ts : List Cur) (code : List UInt8) : Option Cur := ts.find? (fun t => t.code == code)
theorem findT_drop {ts : List Cur} {code : List UInt8} {k : Nat} {t : Cur} (h : ts[k]? = some t) : findT (ts.drop k) code = if t.code = code then some t else findT (ts.drop (k + 1)) code := by
  obtain ⟨hk, rfl⟩ := List.getElem?_eq_some_iff.1 h
  unfold findT
  rw [List.drop_eq_getElem_cons hk, List.find?_cons]
  by_cases h1 : ts[k].code = code
  · rw [if_pos h1]; simp [h1]
  · rw [if_neg h1]
    have : (ts[k].code == code) = false := by rw [beq_eq_false_iff_ne]; exact h1
    rw [this]
def curV : Option Cur → Value
  | some t => .tuple #[.agg #[.string ⟨t.code.toArray⟩, .int .i64 t.places], .bool true]
  | none => .tuple #[.agg #[.string ⟨#[]⟩, .int .i64 0], .bool false]
theorem mFindClo (t : Cur) (code : List UInt8) (bc : Nat) (w : World) (hc : w.cell? ⟨bc, 0, none⟩ = some (.string ⟨code.toArray⟩)) (hlt : bc < w.heap.size) {r : Bool} (hr : (t.code == code) = r) :
    Calls Tryz.prog 108 #[.agg #[.string ⟨t.code.toArray⟩, .int .i64 t.places], .pointer (some ⟨bc, 0, none⟩)] w fun e w' => e = .returned (.bool r) ∧ Below w.heap.size w w' := by
  have hb := below_alloc w (.cells #[.string ⟨t.code.toArray⟩, .int .i64 t.places] 64)
  have q0 := (hb.cell (p := ⟨bc, 0, none⟩) hlt).trans hc
  go_enter Tryz.func108, Tryz.ntmps108
  go_wp2
  go_ret
  exact ⟨rfl, hb⟩
set_option maxHeartbeats 2000000 in
set_option maxRecDepth 100000 in
theorem mfind (A : Option Addr) (ts : List Cur) (c : Nat) (code : List UInt8) (bc : Nat) (w : World) (hn : ts.length ≤ 1000000000) (h : CurAt w A ts) (hc : w.cell? ⟨bc, 0, none⟩ = some (.string ⟨code.toArray⟩)) (hlt : bc < w.heap.size) :
    Calls Tryz.prog 107 #[.slice A ts.length c, .func (Fn.func 108) #[] #[.pointer (some ⟨bc, 0, none⟩)]] w fun e w' => e = .returned (curV (findT ts code)) ∧ Below w.heap.size w w' := by
  have HI := Lib.hid h
  have HC := Lib.hid hc
  have x4 := FBox.new w (.string ⟨#[]⟩) (.int .i64 0) 64
  have hb0 := below_alloc w (.cells #[.string ⟨#[]⟩, .int .i64 0] 64)
  clear h hc
  go_enter Tryz.func107, Tryz.ntmps107
  go_wp2_with fail
  go_loopw [11] (fun iv wr => ∃ k : Nat, k ≤ ts.length ∧ iv = .int .i64 (k : Int) ∧ Hid (findT ts code = findT (ts.drop k) code) ∧ FBox wr w.heap.size (.string ⟨#[]⟩) (.int .i64 0) ∧ Below w.heap.size w wr) (fun iv _ => ts.length - (intOf iv).toNat)
  case atStart => exact ⟨0, Nat.zero_le _, rfl, rfl, x4, hb0⟩
  case round =>
    obtain ⟨k, hk, rfl, HK, y4, hb⟩ := hrel
    by_cases hlk : k < ts.length
    · obtain ⟨t, ht⟩ : ∃ t, ts[k]? = some t := ⟨_, List.getElem?_eq_getElem hlk⟩
      obtain ⟨b, o, rfl, hbs, p0, p1⟩ := (HI.out.below hb) k t ht
      have HD := Lib.hid (findT_drop (code := code) ht)
      have hbA := below_alloc wr (.cells #[.string ⟨t.code.toArray⟩, .int .i64 t.places] 64)
      have x7 := FBox.new wr (.string ⟨t.code.toArray⟩) (.int .i64 t.places) 64
      have qc := ((bto hb hbA).cell (p := ⟨bc, 0, none⟩) hlt).trans HC.out
      have hlt2 : bc < (wr.alloc (.cells #[.string ⟨t.code.toArray⟩, .int .i64 t.places] 64)).heap.size := Nat.lt_of_lt_of_le hlt (bto hb hbA).size
      have CF := Lib.hid (fun r hr => mFindClo t code bc _ qc hlt2 (r := r) hr)
      replace y4 := y4.below hbA
      replace hb := bto hb hbA
      clear ht hbA qc hlt2
      by_cases he : t.code = code
      · have e1 : (t.code == code) = true := by rw [beq_iff_eq]; exact he
        have H1 := Lib.hid (CF.out true e1)
        have HV : Hid (curV (findT ts code) = curV (some t)) := by show _ = _; rw [HK.out, HD.out, if_pos he]
        clear CF e1 he HD HK
        go_wp2_with fail
        ((with_reducible refine H1.out.mono ?_); rintro e w2 ⟨rfl, hb2⟩)
        replace y4 := y4.below hb2
        replace x7 := x7.below hb2
        replace hb := bto hb hb2
        have q0 := y4.c0
        have q1 := y4.c1
        have q2 := y4.f0
        have q3 := y4.f1
        have q4 := x7.c0
        have q5 := x7.c1
        go_wp2
        have hy := y4.set (.string ⟨t.code.toArray⟩) (.int .i64 t.places)
        have d0 := hy.c0
        have d1 := hy.c1
        refine bodyPost_ret (v := .tuple #[.agg #[.string ⟨t.code.toArray⟩, .int .i64 t.places], .bool true]) (by simp [results, Tryz.results107, go_sem, d0, d1]) rfl ?_
        exact ⟨by rw [HV.out]; rfl, below_set2 hb (Nat.le_refl _) _ _⟩
      · have e1 : (t.code == code) = false := by rw [beq_eq_false_iff_ne]; exact he
        have H1 := Lib.hid (CF.out false e1)
        have HV : Hid (findT ts code = findT (ts.drop (k + 1)) code) := by show _ = _; rw [HK.out, HD.out, if_neg he]
        clear CF e1 he HD HK
        go_wp2_with fail
        ((with_reducible refine H1.out.mono ?_); rintro e w2 ⟨rfl, hb2⟩)
        replace y4 := y4.below hb2
        replace hb := bto hb hb2
        clear hb2 x7 H1
        go_wp2
        go_roundw
        case rel => exact ⟨k + 1, by omega, by go_num, HV, y4, hb⟩
        case measure => simp [intOf]; omega
    · have HV : Hid (curV (findT ts code) = curV none) := by show _ = _; rw [HK.out, List.drop_of_length_le (by omega)]; rfl
      have hbA := below_alloc wr (.cells #[.string ⟨#[]⟩, .int .i64 0] 64)
      replace y4 := y4.below hbA
      replace hb := bto hb hbA
      have q0 := y4.c0
      have q1 := y4.c1
      have q2 := y4.f0
      have q3 := y4.f1
      clear hbA
      go_wp2
      have hy := y4.set (.string ⟨#[]⟩) (.int .i64 0)
      have d0 := hy.c0
      have d1 := hy.c1
      refine bodyPost_ret (v := .tuple #[.agg #[.string ⟨#[]⟩, .int .i64 0], .bool false]) (by simp [results, Tryz.results107, go_sem, d0, d1]) rfl ?_
      exact ⟨by rw [HV.out]; rfl, below_set2 hb (Nat.le_refl _) _ _⟩
end Go.Proofs.YtgnppdkeiihlfaaGreatDoor
namespace Go.Proofs.YtgnppdkeiihlfaaGreatDoor
open Go.RowKit Num
set_option maxHeartbeats 1000000 in
set_option maxRecDepth 100000 in
theorem mFind (A : Option Addr) (ts : List Cur) (n c : Nat) (code : List UInt8) (w : World) (hn : ts.length = n) (hn2 : n ≤ 1000000000) (h : CurAt w A ts) :
    Calls Tryz.prog 45 #[.slice A n c, .string ⟨code.toArray⟩] w fun e w' => e = .returned (curV (findT ts code)) ∧ Below w.heap.size w w' := by
  subst hn
  have hbA := below_alloc w (.cells #[.string ⟨code.toArray⟩] 9)
  have hbB := below_alloc (w.alloc (.cells #[.string ⟨code.toArray⟩] 9)) (.cells #[.string ⟨#[]⟩, .int .i64 0] 64)
  have x3 : Blk _ w.heap.size #[.string ⟨code.toArray⟩] := (Blk.new w #[.string ⟨code.toArray⟩] 9).below hbB
  have x4 := FBox.new (w.alloc (.cells #[.string ⟨code.toArray⟩] 9)) (.string ⟨#[]⟩) (.int .i64 0) 64
  rw [World.size_alloc] at x4
  have hb := bto hbA hbB
  have CF := Lib.hid (mfind A ts c code w.heap.size _ hn2 (h.below hb) (x3.c 0) x3.lt)
  clear hbA hbB x3
  generalize findT ts code = fo at CF ⊢
  cases fo with
  | none =>
    unfold curV at CF ⊢
    go_enter Tryz.func45, Tryz.ntmps45
    go_wp2_with fail
    ((with_reducible refine CF.out.mono ?_); rintro e w2 ⟨rfl, hb2⟩)
    replace x4 := x4.below hb2
    replace hb := bto hb hb2
    have q0 := x4.c0
    have q1 := x4.c1
    have q2 := x4.f0
    have q3 := x4.f1
    clear hb2 CF
    go_wp2
    have hy := x4.set (.string ⟨#[]⟩) (.int .i64 0)
    have d0 := hy.c0
    have d1 := hy.c1
    refine bodyPost_ret (v := .tuple #[.agg #[.string ⟨#[]⟩, .int .i64 0], .bool false]) (by simp [results, Tryz.results45, go_sem, d0, d1]) rfl ?_
    exact ⟨rfl, below_set2 hb (Nat.le_succ _) _ _⟩
  | some t =>
    unfold curV at CF ⊢
    go_enter Tryz.func45, Tryz.ntmps45
    go_wp2_with fail
    ((with_reducible refine CF.out.mono ?_); rintro e w2 ⟨rfl, hb2⟩)
    replace x4 := x4.below hb2
    replace hb := bto hb hb2
    have q0 := x4.c0
    have q1 := x4.c1
    have q2 := x4.f0
    have q3 := x4.f1
    clear hb2 CF
    go_wp2
    have hy := x4.set (.string ⟨t.code.toArray⟩) (.int .i64 t.places)
    have d0 := hy.c0
    have d1 := hy.c1
    refine bodyPost_ret (v := .tuple #[.agg #[.string ⟨t.code.toArray⟩, .int .i64 t.places], .bool true]) (by simp [results, Tryz.results45, go_sem, d0, d1]) rfl ?_
    exact ⟨rfl, below_set2 hb (Nat.le_succ _) _ _⟩
/-- what CheckTable returns -/
def tabL (seen : List Cur) : List Cur → Int
  | [] => 0
  | t :: r => if ¬ codeB t.code = true then 23 else if t.places < 0 ∨ 12 < t.places then 2 else if (findT seen t.code).isSome = true then 5 else tabL (seen ++ [t]) r
def tabE (ts : List Cur) : Int := if 16 < ts.length then 4 else tabL [] ts
theorem tabL_step {ts : List Cur} {k : Nat} {t : Cur} (h : ts[k]? = some t) : tabL (ts.take k) (ts.drop k) = if ¬ codeB t.code = true then 23 else if t.places < 0 ∨ 12 < t.places then 2 else if (findT (ts.take k) t.code).isSome = true then 5 else tabL (ts.take (k + 1)) (ts.drop (k + 1)) := by
  obtain ⟨hk, rfl⟩ := List.getElem?_eq_some_iff.1 h
  rw [List.drop_eq_getElem_cons hk, List.take_succ_eq_append_getElem hk]; rfl
def ShortC (ts : List Cur) : Prop := ∀ t ∈ ts, t.code.length ≤ 9223372036854775807
set_option maxHeartbeats 4000000 in
set_option maxRecDepth 100000 in
theorem mTable (A : Option Addr) (ts : List Cur) (n c : Nat) (w : World) (hG : Glob w) (hn : ts.length = n) (hc : n ≤ c) (hs : ShortC ts) (h : CurAt w A ts) :
    Calls Tryz.prog 47 #[.slice A n c] w fun e w' => e = .returned (.int .i64 (tabE ts)) ∧ Below w.heap.size w w' := by
  by_cases h16 : 16 < n
  · have e1 : decide (16 < n) = true := decide_eq_true h16
    have HV : Hid (tabE ts = 4) := by show _ = _; unfold tabE; rw [if_pos (by omega)]
    go_enter Tryz.func47, Tryz.ntmps47
    go_wp2
    go_ret
    exact ⟨reti HV.out.symm, Below.refl _ _⟩
  have e1 : decide (16 < n) = false := decide_eq_false h16
  have HV : Hid (tabE ts = tabL [] ts) := by show _ = _; unfold tabE; rw [if_neg (by omega)]
  have HI := Lib.hid h
  have HN := Lib.hid hn
  have HS := Lib.hid hs
  have hn1 : ts.length ≤ n := by omega
  have hn2 : n ≤ ts.length := by omega
  clear h hn hs
  go_enter Tryz.func47, Tryz.ntmps47
  go_wp2_with fail
  clear e1
  go_loopw [12] (fun iv wr => ∃ k : Nat, k ≤ n ∧ iv = .int .i64 (k : Int) ∧ Hid (tabL [] ts = tabL (ts.take k) (ts.drop k)) ∧ Below w.heap.size w wr) (fun iv _ => n - (intOf iv).toNat)
  case atStart => exact ⟨0, Nat.zero_le _, rfl, rfl, Below.refl _ _⟩
  case round =>
    obtain ⟨k, hk, rfl, HK, hb⟩ := hrel
    by_cases hlk : k < n
    · obtain ⟨t, ht⟩ : ∃ t, ts[k]? = some t := ⟨_, List.getElem?_eq_getElem (by omega)⟩
      obtain ⟨b, o, rfl, hbs, p0, p1⟩ := (HI.out.below hb) k t ht
      have HD := Lib.hid (tabL_step ht)
      have hts := HS.out t (List.mem_of_getElem? ht)
      have hbA := below_alloc wr (.cells #[.string ⟨t.code.toArray⟩, .int .i64 t.places] 64)
      have x4 := FBox.new wr (.string ⟨t.code.toArray⟩) (.int .i64 t.places) 64
      replace hb := bto hb hbA
      have C1 := Lib.hid (mCode (l := t.code) (by omega))
      clear ht hbA
      by_cases g1 : codeB t.code = true
      rotate_left
      · have e1 := not_true_b g1
        have HQ : Hid (tabL [] ts = 23) := by show _ = _; rw [HK.out, HD.out, if_pos g1]
        clear g1 HK HD
        go_wp2_with fail
        ((with_reducible refine (C1.out.of hG hb).mono ?_); rintro e w2 ⟨rfl, hb2⟩)
        go_wp2
        go_ret
        exact ⟨reti (HV.out.trans HQ.out).symm, bto hb hb2⟩
      have e1 := g1
      go_wp2_with fail
      ((with_reducible refine (C1.out.of hG hb).mono ?_); rintro e w2 ⟨rfl, hb2⟩)
      replace x4 := x4.below hb2
      replace hb := bto hb hb2
      clear C1 hb2
      by_cases g2 : t.places < 0
      · have e2 : decide (t.places < 0) = true := decide_eq_true g2
        have HQ : Hid (tabL [] ts = 2) := by show _ = _; rw [HK.out, HD.out, if_neg (fun h => h g1), if_pos (.inl g2)]
        clear g1 HK HD
        have q0 := x4.c0
        have q1 := x4.c1
        go_wp2
        go_ret
        exact ⟨reti (HV.out.trans HQ.out).symm, hb⟩
      have e2 : decide (t.places < 0) = false := decide_eq_false g2
      by_cases g3 : 12 < t.places
      · have e3 : decide (12 < t.places) = true := decide_eq_true g3
        have HQ : Hid (tabL [] ts = 2) := by show _ = _; rw [HK.out, HD.out, if_neg (fun h => h g1), if_pos (.inr g3)]
        clear g1 HK HD
        have q0 := x4.c0
        have q1 := x4.c1
        go_wp2
        go_ret
        exact ⟨reti (HV.out.trans HQ.out).symm, hb⟩
      have e3 : decide (12 < t.places) = false := decide_eq_false g3
      have CF : ∀ w', Below w.heap.size w w' → Calls Tryz.prog 45 #[.slice (some ⟨b, o, none⟩) k c, .string ⟨t.code.toArray⟩] w' fun e w'' => e = .returned (curV (findT (ts.take k) t.code)) ∧ Below w'.heap.size w' w'' :=
        fun w' hb' => mFind _ (ts.take k) k c t.code w' (by rw [List.length_take]; omega) (by omega) ((HI.out.below hb').take k)
      have HQ : Hid (tabL [] ts = if (findT (ts.take k) t.code).isSome = true then 5 else tabL (ts.take (k + 1)) (ts.drop (k + 1))) := by show _ = _; rw [HK.out, HD.out, if_neg (fun h => h g1), if_neg (fun h => h.elim g2 g3)]
      clear g1 HK HD
      have q0 := x4.c0
      have q1 := x4.c1
      generalize hfo : findT (ts.take k) t.code = fo at CF HQ
      clear hfo
      have kk : k ≤ c := by omega
      cases fo with
      | none =>
        unfold curV at CF
        go_wp2_with fail
        clear q0 q1
        go_wp2_with fail
        refine wp_region_kept (by kernel_rfl) (by kernel_rfl) ?_
        refine kept_val _ (fun _ => rfl) (fun ρ w hw => by go_simp; first | done | with_reducible rfl) ?_
        simp only [Act.put, List.setIfInBounds_toArray, List.set_cons_zero, List.set_cons_succ, Nat.reduceAdd]
        refine kept_val _ (fun _ => rfl) (fun ρ w hw => by go_simp; first | done | with_reducible rfl) ?_
        simp only [Act.put, List.setIfInBounds_toArray, List.set_cons_zero, List.set_cons_succ, Nat.reduceAdd]
        refine kept_val _ (fun _ => rfl) (fun ρ w hw => by go_simp; first | done | with_reducible rfl) ?_
        simp only [Act.put, List.setIfInBounds_toArray, List.set_cons_zero, List.set_cons_succ, Nat.reduceAdd]
        refine kept_val _ (fun _ => rfl) (fun ρ w hw => by go_simp; first | done | with_reducible rfl) ?_
        simp only [Act.put, List.setIfInBounds_toArray, List.set_cons_zero, List.set_cons_succ, Nat.reduceAdd]
        refine kept_val _ (fun _ => rfl) (fun ρ w hw => by have q0 := (x4.below hw).c0; have q1 := (x4.below hw).c1; go_simp; first | done | with_reducible rfl) ?_
        simp only [Act.put, List.setIfInBounds_toArray, List.set_cons_zero, List.set_cons_succ, Nat.reduceAdd]
        refine kept_call _ _ _ (fun _ => rfl) (fun ρ w hw => by go_simp; first | done | with_reducible rfl) (fun w hw => (CF _ (bto hb hw))) ?_
        simp only [Act.put, List.setIfInBounds_toArray, List.set_cons_zero, List.set_cons_succ, Nat.reduceAdd]
        refine kept_val _ (fun _ => rfl) (fun ρ w hw => by go_simp; first | done | with_reducible rfl) ?_
        simp only [Act.put, List.setIfInBounds_toArray, List.set_cons_zero, List.set_cons_succ, Nat.reduceAdd]
        refine kept_val _ (fun _ => rfl) (fun ρ w hw => by go_simp; first | done | with_reducible rfl) ?_
        simp only [Act.put, List.setIfInBounds_toArray, List.set_cons_zero, List.set_cons_succ, Nat.reduceAdd]
        refine kept_val _ (fun _ => rfl) (fun ρ w hw => by go_simp; first | done | with_reducible rfl) ?_
        simp only [Act.put, List.setIfInBounds_toArray, List.set_cons_zero, List.set_cons_succ, Nat.reduceAdd]
        refine kept_box (fun b => .pointer (some ⟨b, 0, none⟩)) _ rfl (fun _ => rfl) (fun ρ w hw => by go_simp; first | done | with_reducible rfl) ?_
        simp only [Act.put, List.setIfInBounds_toArray, List.set_cons_zero, List.set_cons_succ, Nat.reduceAdd]
        refine kept_put2 9 _ 5 _ _ _ _ _ rfl rfl rfl (by decide) (fun _ => rfl) (fun ρ w hw q0 q1 q2 q3 => by go_simp; first | done | with_reducible rfl) ?_
        simp only [Act.put, Nat.reduceAdd]
        refine kept_val _ (fun _ => rfl) (fun ρ w hw => by go_simp; first | done | with_reducible rfl) ?_
        simp only [Act.put, List.setIfInBounds_toArray, List.set_cons_zero, List.set_cons_succ, Nat.reduceAdd]
        refine kept_end (fun ρ w2 hF => ?_)
        replace x4 := x4.below hF.below
        replace hb := bto hb hF.below
        have x5 := FBox.ofB (hF.box 9 _ _ rfl).2
        generalize ρ 9 = b5 at *
        clear hF
        clear CF
        go_wp2
        go_roundw
        case rel => exact ⟨k + 1, by omega, by go_num, HQ.out, hb⟩
        case measure => simp [intOf]; omega
      | some u =>
        unfold curV at CF
        go_wp2_with fail
        clear q0 q1
        go_wp2_with fail
        refine wp_region_kept (by kernel_rfl) (by kernel_rfl) ?_
        refine kept_val _ (fun _ => rfl) (fun ρ w hw => by go_simp; first | done | with_reducible rfl) ?_
        simp only [Act.put, List.setIfInBounds_toArray, List.set_cons_zero, List.set_cons_succ, Nat.reduceAdd]
        refine kept_val _ (fun _ => rfl) (fun ρ w hw => by go_simp; first | done | with_reducible rfl) ?_
        simp only [Act.put, List.setIfInBounds_toArray, List.set_cons_zero, List.set_cons_succ, Nat.reduceAdd]
        refine kept_val _ (fun _ => rfl) (fun ρ w hw => by go_simp; first | done | with_reducible rfl) ?_
        simp only [Act.put, List.setIfInBounds_toArray, List.set_cons_zero, List.set_cons_succ, Nat.reduceAdd]
        refine kept_val _ (fun _ => rfl) (fun ρ w hw => by go_simp; first | done | with_reducible rfl) ?_
        simp only [Act.put, List.setIfInBounds_toArray, List.set_cons_zero, List.set_cons_succ, Nat.reduceAdd]
        refine kept_val _ (fun _ => rfl) (fun ρ w hw => by have q0 := (x4.below hw).c0; have q1 := (x4.below hw).c1; go_simp; first | done | with_reducible rfl) ?_
        simp only [Act.put, List.setIfInBounds_toArray, List.set_cons_zero, List.set_cons_succ, Nat.reduceAdd]
        refine kept_call _ _ _ (fun _ => rfl) (fun ρ w hw => by go_simp; first | done | with_reducible rfl) (fun w hw => (CF _ (bto hb hw))) ?_
        simp only [Act.put, List.setIfInBounds_toArray, List.set_cons_zero, List.set_cons_succ, Nat.reduceAdd]
        refine kept_val _ (fun _ => rfl) (fun ρ w hw => by go_simp; first | done | with_reducible rfl) ?_
        simp only [Act.put, List.setIfInBounds_toArray, List.set_cons_zero, List.set_cons_succ, Nat.reduceAdd]
        refine kept_val _ (fun _ => rfl) (fun ρ w hw => by go_simp; first | done | with_reducible rfl) ?_
        simp only [Act.put, List.setIfInBounds_toArray, List.set_cons_zero, List.set_cons_succ, Nat.reduceAdd]
        refine kept_val _ (fun _ => rfl) (fun ρ w hw => by go_simp; first | done | with_reducible rfl) ?_
        simp only [Act.put, List.setIfInBounds_toArray, List.set_cons_zero, List.set_cons_succ, Nat.reduceAdd]
        refine kept_box (fun b => .pointer (some ⟨b, 0, none⟩)) _ rfl (fun _ => rfl) (fun ρ w hw => by go_simp; first | done | with_reducible rfl) ?_
        simp only [Act.put, List.setIfInBounds_toArray, List.set_cons_zero, List.set_cons_succ, Nat.reduceAdd]
        refine kept_put2 9 _ 5 _ _ _ _ _ rfl rfl rfl (by decide) (fun _ => rfl) (fun ρ w hw q0 q1 q2 q3 => by go_simp; first | done | with_reducible rfl) ?_
        simp only [Act.put, Nat.reduceAdd]
        refine kept_val _ (fun _ => rfl) (fun ρ w hw => by go_simp; first | done | with_reducible rfl) ?_
        simp only [Act.put, List.setIfInBounds_toArray, List.set_cons_zero, List.set_cons_succ, Nat.reduceAdd]
        refine kept_end (fun ρ w2 hF => ?_)
        replace x4 := x4.below hF.below
        replace hb := bto hb hF.below
        have x5 := FBox.ofB (hF.box 9 _ _ rfl).2
        generalize ρ 9 = b5 at *
        clear hF
        clear CF
        go_wp2
        go_ret
        exact ⟨reti (HV.out.trans HQ.out).symm, hb⟩
    · have HQ : Hid (tabL [] ts = 0) := by show _ = _; rw [HK.out, List.drop_of_length_le (by omega)]; rfl
      go_wp2
      go_ret
      exact ⟨reti (HV.out.trans HQ.out).symm, hb⟩
end Go.Proofs.YtgnppdkeiihlfaaGreatDoor
namespace Go.Proofs.YtgnppdkeiihlfaaGreatDoor
open Go.RowKit Num
theorem findT_at {ts : List Cur} {code : List UInt8} {k j : Nat} {u : Cur} (hj : j < k) (h : ts[j]? = some u) : findT ((ts.take k).drop j) code = if u.code = code then some u else findT ((ts.take k).drop (j + 1)) code :=
  findT_drop (by rw [List.getElem?_take, if_pos hj]; exact h)
set_option maxHeartbeats 4000000 in
set_option maxRecDepth 100000 in
theorem jTable (A : Option Addr) (ts : List Cur) (n c : Nat) (w : World) (hG : Glob w) (hn : ts.length = n) (hs : ShortC ts) (h : CurAt w A ts) :
    Calls Tryz.prog 48 #[.slice A n c] w fun e w' => e = .returned (.int .i64 (tabE ts)) ∧ Below w.heap.size w w' := by
  by_cases h16 : 16 < n
  · have e1 : decide (16 < n) = true := decide_eq_true h16
    have HV : Hid (tabE ts = 4) := by show _ = _; unfold tabE; rw [if_pos (by omega)]
    go_enter Tryz.func48, Tryz.ntmps48
    go_wp2
    go_ret
    exact ⟨reti HV.out.symm, Below.refl _ _⟩
  have e1 : decide (16 < n) = false := decide_eq_false h16
  have HV : Hid (tabE ts = tabL [] ts) := by show _ = _; unfold tabE; rw [if_neg (by omega)]
  have HI := Lib.hid h
  have HS := Lib.hid hs
  have hn1 : ts.length ≤ n := by omega
  have hn2 : n ≤ ts.length := by omega
  clear h hn hs
  go_enter Tryz.func48, Tryz.ntmps48
  go_wp2_with fail
  clear e1
  go_loopw [3, 4] (fun iv _ wr => ∃ k : Nat, k ≤ n ∧ iv = .int .i64 (k : Int) ∧ Hid (tabL [] ts = tabL (ts.take k) (ts.drop k)) ∧ Below w.heap.size w wr) (fun iv _ _ => n - (intOf iv).toNat)
  case atStart => exact ⟨0, Nat.zero_le _, rfl, rfl, Below.refl _ _⟩
  case round =>
    obtain ⟨k, hk, rfl, HK, hb⟩ := hrel
    by_cases hlk : k < n
    · obtain ⟨t, ht⟩ : ∃ t, ts[k]? = some t := ⟨_, List.getElem?_eq_getElem (by omega)⟩
      obtain ⟨b, o, rfl, hbs, p0, p1⟩ := (HI.out.below hb) k t ht
      have HD := Lib.hid (tabL_step ht)
      have hts := HS.out t (List.mem_of_getElem? ht)
      have C1 := Lib.hid (jCode5L (l := t.code) (by omega))
      clear ht
      by_cases g1 : codeB t.code = true
      rotate_left
      · have e1 := not_true_b g1
        have HQ : Hid (tabL [] ts = 23) := by show _ = _; rw [HK.out, HD.out, if_pos g1]
        clear g1 HK HD
        go_wp2_with fail
        ((with_reducible refine (C1.out.of hG hb).mono ?_); rintro e w2 ⟨rfl, hb2⟩)
        go_wp2
        go_ret
        exact ⟨reti (HV.out.trans HQ.out).symm, bto hb hb2⟩
      have e1 := g1
      go_wp2_with fail
      ((with_reducible refine (C1.out.of hG hb).mono ?_); rintro e w2 ⟨rfl, hb2⟩)
      replace p0 := (hb2.cell (p := ⟨b, o + k * 2, none⟩) hbs).trans p0
      replace p1 := (hb2.cell (p := ⟨b, o + k * 2 + 1, none⟩) hbs).trans p1
      replace hbs := Nat.lt_of_lt_of_le hbs hb2.size
      replace hb := bto hb hb2
      clear C1 hb2
      by_cases g2 : t.places < 0
      · have e2 : decide (t.places < 0) = true := decide_eq_true g2
        have HQ : Hid (tabL [] ts = 2) := by show _ = _; rw [HK.out, HD.out, if_neg (fun h => h g1), if_pos (.inl g2)]
        clear g1 HK HD
        go_wp2
        go_ret
        exact ⟨reti (HV.out.trans HQ.out).symm, hb⟩
      have e2 : decide (t.places < 0) = false := decide_eq_false g2
      by_cases g3 : 12 < t.places
      · have e3 : decide (12 < t.places) = true := decide_eq_true g3
        have HQ : Hid (tabL [] ts = 2) := by show _ = _; rw [HK.out, HD.out, if_neg (fun h => h g1), if_pos (.inr g3)]
        clear g1 HK HD
        go_wp2
        go_ret
        exact ⟨reti (HV.out.trans HQ.out).symm, hb⟩
      have e3 : decide (12 < t.places) = false := decide_eq_false g3
      have HQ : Hid (tabL [] ts = if (findT (ts.take k) t.code).isSome = true then 5 else tabL (ts.take (k + 1)) (ts.drop (k + 1))) := by show _ = _; rw [HK.out, HD.out, if_neg (fun h => h g1), if_neg (fun h => h.elim g2 g3)]
      clear g1 HK HD
      go_wp2_with fail
      clear e1 e2 e3 p1
      have P0 := Lib.hid p0
      have HB := Lib.hid hb
      have HBS := Lib.hid hbs
      clear p0 hb hbs
      obtain ⟨wo, hwo⟩ : ∃ wo : World, wo = w2 := ⟨_, rfl⟩
      go_loopw [4] (fun jv wi => ∃ j : Nat, j ≤ k ∧ jv = .int .i64 (j : Int) ∧ Hid (findT (ts.take k) t.code = findT ((ts.take k).drop j) t.code) ∧ Below w2.heap.size w2 wi) (fun jv _ => k - (intOf jv).toNat)
      case atStart => exact ⟨0, Nat.zero_le _, rfl, rfl, Below.refl _ _⟩
      case round =>
        obtain ⟨j, hj, rfl, HJ, hbi⟩ := hrel
        have hb := bto HB.out hbi
        by_cases hjk : j < k
        · obtain ⟨u, hu⟩ : ∃ u, ts[j]? = some u := ⟨_, List.getElem?_eq_getElem (by omega)⟩
          obtain ⟨b', o', hA, hbs', pj, -⟩ := (HI.out.below hb) j u hu
          injection hA with hA
          injection hA with hA1 hA2
          subst hA1 hA2
          have HF := Lib.hid (findT_at (code := t.code) hjk hu)
          have p0 := (hbi.cell (p := ⟨b, o + k * 2, none⟩) HBS.out).trans P0.out
          have hbs := hbs'
          clear hu hbs'
          have hjn : j < n := by omega
          by_cases he : u.code = t.code
          · have e1 : (u.code == t.code) = true := by rw [beq_iff_eq]; exact he
            have HR : Hid (tabL [] ts = 5) := by show _ = _; rw [HQ.out, HJ.out, HF.out, if_pos he]; rfl
            clear he HJ HF HQ
            go_wp2_with fail
            refine wp_region_kept (by kernel_rfl) (by kernel_rfl) ?_
            refine kept_val _ (fun _ => rfl) (fun ρ w hw => by go_simp; first | done | with_reducible rfl) ?_
            simp only [Act.put, List.setIfInBounds_toArray, List.set_cons_zero, List.set_cons_succ, Nat.reduceAdd]
            refine kept_val _ (fun _ => rfl) (fun ρ w hw => by go_simp; first | done | with_reducible rfl) ?_
            simp only [Act.put, List.setIfInBounds_toArray, List.set_cons_zero, List.set_cons_succ, Nat.reduceAdd]
            refine kept_val _ (fun _ => rfl) (fun ρ w hw => by go_simp; first | done | with_reducible rfl) ?_
            simp only [Act.put, List.setIfInBounds_toArray, List.set_cons_zero, List.set_cons_succ, Nat.reduceAdd]
            refine kept_val _ (fun _ => rfl) (fun ρ w hw => by go_simp; first | done | with_reducible rfl) ?_
            simp only [Act.put, List.setIfInBounds_toArray, List.set_cons_zero, List.set_cons_succ, Nat.reduceAdd]
            refine kept_val _ (fun _ => rfl) (fun ρ w hw => by have q0 := (hw.cell (p := ⟨b, o + j * 2, none⟩) hbs).trans pj; go_simp; first | done | with_reducible rfl) ?_
            simp only [Act.put, List.setIfInBounds_toArray, List.set_cons_zero, List.set_cons_succ, Nat.reduceAdd]
            refine kept_val _ (fun _ => rfl) (fun ρ w hw => by go_simp; first | done | with_reducible rfl) ?_
            simp only [Act.put, List.setIfInBounds_toArray, List.set_cons_zero, List.set_cons_succ, Nat.reduceAdd]
            refine kept_val _ (fun _ => rfl) (fun ρ w hw => by go_simp; first | done | with_reducible rfl) ?_
            simp only [Act.put, List.setIfInBounds_toArray, List.set_cons_zero, List.set_cons_succ, Nat.reduceAdd]
            refine kept_val _ (fun _ => rfl) (fun ρ w hw => by go_simp; first | done | with_reducible rfl) ?_
            simp only [Act.put, List.setIfInBounds_toArray, List.set_cons_zero, List.set_cons_succ, Nat.reduceAdd]
            refine kept_val _ (fun _ => rfl) (fun ρ w hw => by go_simp; first | done | with_reducible rfl) ?_
            simp only [Act.put, List.setIfInBounds_toArray, List.set_cons_zero, List.set_cons_succ, Nat.reduceAdd]
            refine kept_val _ (fun _ => rfl) (fun ρ w hw => by have q0 := (hw.cell (p := ⟨b, o + k * 2, none⟩) hbs).trans p0; go_simp; first | done | with_reducible rfl) ?_
            simp only [Act.put, List.setIfInBounds_toArray, List.set_cons_zero, List.set_cons_succ, Nat.reduceAdd]
            refine kept_val _ (fun _ => rfl) (fun ρ w hw => by go_simp; first | done | with_reducible rfl) ?_
            simp only [Act.put, List.setIfInBounds_toArray, List.set_cons_zero, List.set_cons_succ, Nat.reduceAdd]
            refine kept_end (fun ρ w6 hF => ?_)
            replace hb := bto hb hF.below
            clear hF
            go_wp2
            go_ret
            exact ⟨reti (HV.out.trans HR.out).symm, hb⟩
          · have e1 : (u.code == t.code) = false := by rw [beq_eq_false_iff_ne]; exact he
            have HJ2 : Hid (findT (ts.take k) t.code = findT ((ts.take k).drop (j + 1)) t.code) := by show _ = _; rw [HJ.out, HF.out, if_neg he]
            clear he HJ HF
            have hb := hbi
            go_wp2_with fail
            refine wp_region_kept (by kernel_rfl) (by kernel_rfl) ?_
            refine kept_val _ (fun _ => rfl) (fun ρ w hw => by go_simp; first | done | with_reducible rfl) ?_
            simp only [Act.put, List.setIfInBounds_toArray, List.set_cons_zero, List.set_cons_succ, Nat.reduceAdd]
            refine kept_val _ (fun _ => rfl) (fun ρ w hw => by go_simp; first | done | with_reducible rfl) ?_
            simp only [Act.put, List.setIfInBounds_toArray, List.set_cons_zero, List.set_cons_succ, Nat.reduceAdd]
            refine kept_val _ (fun _ => rfl) (fun ρ w hw => by go_simp; first | done | with_reducible rfl) ?_
            simp only [Act.put, List.setIfInBounds_toArray, List.set_cons_zero, List.set_cons_succ, Nat.reduceAdd]
            refine kept_val _ (fun _ => rfl) (fun ρ w hw => by go_simp; first | done | with_reducible rfl) ?_
            simp only [Act.put, List.setIfInBounds_toArray, List.set_cons_zero, List.set_cons_succ, Nat.reduceAdd]
            refine kept_val _ (fun _ => rfl) (fun ρ w hw => by have q0 := (hw.cell (p := ⟨b, o + j * 2, none⟩) hbs).trans pj; go_simp; first | done | with_reducible rfl) ?_
            simp only [Act.put, List.setIfInBounds_toArray, List.set_cons_zero, List.set_cons_succ, Nat.reduceAdd]
            refine kept_val _ (fun _ => rfl) (fun ρ w hw => by go_simp; first | done | with_reducible rfl) ?_
            simp only [Act.put, List.setIfInBounds_toArray, List.set_cons_zero, List.set_cons_succ, Nat.reduceAdd]
            refine kept_val _ (fun _ => rfl) (fun ρ w hw => by go_simp; first | done | with_reducible rfl) ?_
            simp only [Act.put, List.setIfInBounds_toArray, List.set_cons_zero, List.set_cons_succ, Nat.reduceAdd]
            refine kept_val _ (fun _ => rfl) (fun ρ w hw => by go_simp; first | done | with_reducible rfl) ?_
            simp only [Act.put, List.setIfInBounds_toArray, List.set_cons_zero, List.set_cons_succ, Nat.reduceAdd]
            refine kept_val _ (fun _ => rfl) (fun ρ w hw => by go_simp; first | done | with_reducible rfl) ?_
            simp only [Act.put, List.setIfInBounds_toArray, List.set_cons_zero, List.set_cons_succ, Nat.reduceAdd]
            refine kept_val _ (fun _ => rfl) (fun ρ w hw => by have q0 := (hw.cell (p := ⟨b, o + k * 2, none⟩) hbs).trans p0; go_simp; first | done | with_reducible rfl) ?_
            simp only [Act.put, List.setIfInBounds_toArray, List.set_cons_zero, List.set_cons_succ, Nat.reduceAdd]
            refine kept_val _ (fun _ => rfl) (fun ρ w hw => by go_simp; first | done | with_reducible rfl) ?_
            simp only [Act.put, List.setIfInBounds_toArray, List.set_cons_zero, List.set_cons_succ, Nat.reduceAdd]
            refine kept_end (fun ρ w6 hF => ?_)
            replace hb := bto hb hF.below
            clear hF
            go_wp2
            go_roundw
            case rel => exact ⟨j + 1, by omega, by go_num, HJ2, hb⟩
            case measure => simp [intOf]; omega
        · have HR : Hid (tabL [] ts = tabL (ts.take (k + 1)) (ts.drop (k + 1))) := by
            show _ = _
            rw [HQ.out, HJ.out, List.drop_of_length_le (by rw [List.length_take]; omega)]; rfl
          clear HJ HQ
          go_wp2
          go_roundw
          case rel => exact ⟨k + 1, by omega, by go_num, HR, hb⟩
          case measure => simp [intOf]; omega
    · have HQ : Hid (tabL [] ts = 0) := by show _ = _; rw [HK.out, List.drop_of_length_le (by omega)]; rfl
      go_wp2
      go_ret
      exact ⟨reti (HV.out.trans HQ.out).symm, hb⟩
end Go.Proofs.YtgnppdkeiihlfaaGreatDoor
namespace Go.Proofs.YtgnppdkeiihlfaaGreatDoor
open Num Go.Op
/-- an amount of a currency -/
structure Mon where
  cur : List UInt8
  amt : List UInt8
theorem ltS_irr : ∀ a : List UInt8, bytesLess a a = false
  | [] => rfl
  | a :: x => by
    have h := ltS_irr x
    simp [bytesLess, h]
theorem ltS_nil (b : List UInt8) : bytesLess b [] = false := by cases b <;> rfl
theorem ltS_cons {a b : UInt8} {x y : List UInt8} : bytesLess (a :: x) (b :: y) = true ↔ a < b ∨ (a = b ∧ bytesLess x y = true) := by simp [bytesLess]
theorem ltS_trans : ∀ {a b c : List UInt8}, bytesLess a b = true → bytesLess b c = true → bytesLess a c = true
  | _, _, [], _, h2 => by rw [ltS_nil] at h2; cases h2
  | _, [], _ :: _, h1, _ => by rw [ltS_nil] at h1; cases h1
  | [], _ :: _, _ :: _, _, _ => rfl
  | a :: x, b :: y, c :: z, h1, h2 => by
    rw [ltS_cons] at *
    rcases h1 with h1 | ⟨rfl, h1⟩
    · rcases h2 with h2 | ⟨rfl, h2⟩
      · exact .inl (UInt8.lt_trans h1 h2)
      · exact .inl h1
    · rcases h2 with h2 | ⟨rfl, h2⟩
      · exact .inl h2
      · exact .inr ⟨rfl, ltS_trans h1 h2⟩
theorem ltS_tri : ∀ a b : List UInt8, bytesLess a b = true ∨ a = b ∨ bytesLess b a = true
  | [], [] => .inr (.inl rfl)
  | [], _ :: _ => .inl rfl
  | _ :: _, [] => .inr (.inr rfl)
  | a :: x, b :: y => by
    rw [ltS_cons, ltS_cons]
    rcases Nat.lt_trichotomy a.toNat b.toNat with h | h | h
    · exact .inl (.inl (UInt8.lt_iff_toNat_lt.2 h))
    · obtain rfl := UInt8.toNat_inj.1 h
      rcases ltS_tri x y with h | h | h
      · exact .inl (.inr ⟨rfl, h⟩)
      · exact .inr (.inl (by rw [h]))
      · exact .inr (.inr (.inr ⟨rfl, h⟩))
    · exact .inr (.inr (.inl (UInt8.lt_iff_toNat_lt.2 h)))
theorem ltS_ne {a b : List UInt8} (h : bytesLess a b = true) : a ≠ b := fun e => by rw [e, ltS_irr] at h; cases h
theorem ltS_asym {a b : List UInt8} (h : bytesLess a b = true) : bytesLess b a = false := by
  cases h2 : bytesLess b a with
  | false => rfl
  | true => have := ltS_trans h h2; rw [ltS_irr] at this; cases this
/-! What the iterator over two bags yields. -/
abbrev Yl := List UInt8 × List UInt8 × List UInt8
def bothM (x : Mon) (f : List Mon → List Yl) : List Mon → List Yl
  | [] => (x.cur, x.amt, []) :: f []
  | y :: s => if x.cur = y.cur then (x.cur, x.amt, y.amt) :: f s else if bytesLess x.cur y.cur = true then (x.cur, x.amt, []) :: f (y :: s) else (y.cur, [], y.amt) :: bothM x f s
def bothL : List Mon → List Mon → List Yl
  | [], b => b.map (fun y => (y.cur, [], y.amt))
  | x :: r, b => bothM x (bothL r) b
theorem both_nil (x : Mon) (r : List Mon) : bothL (x :: r) [] = (x.cur, x.amt, []) :: bothL r [] := rfl
theorem both_eq {x y : Mon} (h : x.cur = y.cur) (r s : List Mon) : bothL (x :: r) (y :: s) = (x.cur, x.amt, y.amt) :: bothL r s := by
  show bothM x (bothL r) (y :: s) = _
  rw [bothM, if_pos h]
theorem both_lt {x y : Mon} (h : bytesLess x.cur y.cur = true) (r s : List Mon) : bothL (x :: r) (y :: s) = (x.cur, x.amt, []) :: bothL r (y :: s) := by
  show bothM x (bothL r) (y :: s) = _
  rw [bothM, if_neg (ltS_ne h), if_pos h]
theorem both_gt {x y : Mon} (h : bytesLess y.cur x.cur = true) (r s : List Mon) : bothL (x :: r) (y :: s) = (y.cur, [], y.amt) :: bothL (x :: r) s := by
  show bothM x (bothL r) (y :: s) = _
  rw [bothM, if_neg (ltS_ne h).symm, if_neg (by rw [ltS_asym h]; decide)]
  rfl
def keepL : List Yl → List Mon
  | [] => []
  | y :: r => if val y.2.1 + val y.2.2 = 0 then keepL r else ⟨y.1, canon (val y.2.1 + val y.2.2)⟩ :: keepL r
/-- the sum of two bags -/
def smL (a b : List Mon) : List Mon := keepL (bothL a b)
/-! One amount added, the reference's way. -/
/-! The opposite amounts; a bag's check. -/
end Go.Proofs.YtgnppdkeiihlfaaGreatDoor
namespace Go.Proofs.YtgnppdkeiihlfaaGreatDoor
open Num Go.Op
theorem both_len : ∀ a b : List Mon, (bothL a b).length ≤ a.length + b.length
  | [], b => by simp [bothL]
  | x :: r, b => by
    show (bothM x (bothL r) b).length ≤ _
    induction b with
    | nil =>
      have := both_len r []
      simp [bothM] at this ⊢; omega
    | cons y s ih =>
      unfold bothM
      split
      · have := both_len r s; simp; omega
      · split
        · have := both_len r (y :: s); simp at this ⊢; omega
        · simp at ih ⊢; omega
theorem keep_len : ∀ ys : List Yl, (keepL ys).length ≤ ys.length
  | [] => Nat.le_refl _
  | y :: r => by
    have := keep_len r
    unfold keepL
    split <;> simp <;> omega
theorem smL_len (a b : List Mon) : (smL a b).length ≤ a.length + b.length := Nat.le_trans (keep_len _) (both_len a b)
/-! Bags with the same amounts in their currencies. -/
/-! Amounts put one behind the other. -/
end Go.Proofs.YtgnppdkeiihlfaaGreatDoor
namespace Go.Proofs
open Go.Shelf
end Go.Proofs
namespace Go.Proofs.YtgnppdkeiihlfaaGreatDoor
open Go.RowKit Num
/-- a block whose first cells are these -/
def CRow (w : World) (g : Nat) (ty : TypeId) (cs : List Value) : Prop := ∃ cur : Array Value, w.heap[g]? = some (.cells cur ty (0, 0)) ∧ cur.toList.take cs.length = cs ∧ cs.length ≤ cur.size
section
variable {w w' : World} {g b i : Nat} {ty : TypeId} {cs : List Value} {u v : Value}
theorem CRow.lt (h : CRow w g ty cs) : g < w.heap.size := by obtain ⟨cur, h, -⟩ := h; exact (Array.getElem?_eq_some_iff.1 h).1
theorem CRow.below (h : CRow w g ty cs) (hb : Below w.heap.size w w') : CRow w' g ty cs := by
  have hl := h.lt
  obtain ⟨cur, h, h2⟩ := h
  exact ⟨cur, (hb.block g hl).trans h, h2⟩
theorem CRow.far (h : CRow w g ty cs) (hn : g ≠ b) : CRow (w.setCell ⟨b, i, none⟩ u) g ty cs := by
  obtain ⟨cur, h, h2⟩ := h
  exact ⟨cur, (Below.heap_setCell w ⟨b, i, none⟩ u g hn).trans h, h2⟩
theorem CRow.cell (h : CRow w g ty cs) (hx : cs[i]? = some v) : w.cell? ⟨g, i, none⟩ = some v := by
  obtain ⟨cur, hh, ht, hs⟩ := h
  have hi := (List.getElem?_eq_some_iff.1 hx).1
  rw [blk_cell hh, ← hx, ← ht, List.getElem?_take, if_pos hi, Array.getElem?_toList]
theorem CRow.set (h : CRow w g ty cs) (i : Nat) (u : Value) : CRow (w.setCell ⟨g, i, none⟩ u) g ty (cs.set i u) := by
  obtain ⟨cur, hh, ht, hs⟩ := h
  refine ⟨cur.setIfInBounds i u, ?_, ?_, by simpa using hs⟩
  · obtain ⟨hlt, hk⟩ := Array.getElem?_eq_some_iff.1 hh
    show (w.heap.modify g _)[g]? = _
    rw [Array.getElem?_eq_getElem (by rw [Array.size_modify]; exact hlt), Array.getElem_modify_self, hk]
    simp
  · rw [List.length_set, Array.toList_setIfInBounds, List.take_set, ht]
end
def MonAt (w : World) (A : Option Addr) (ts : List Mon) : Prop := ∀ i t, ts[i]? = some t → ∃ b o, A = some ⟨b, o, none⟩ ∧ b < w.heap.size ∧ w.cell? ⟨b, o + i * 2, none⟩ = some (.string ⟨t.cur.toArray⟩) ∧ w.cell? ⟨b, o + i * 2 + 1, none⟩ = some (.string ⟨t.amt.toArray⟩)
theorem MonAt.below {w w' : World} {A : Option Addr} {ts : List Mon} (h : MonAt w A ts) (hb : Below w.heap.size w w') : MonAt w' A ts := fun i t ht => by
  obtain ⟨b, o, h0, h1, h2, h3⟩ := h i t ht
  exact ⟨b, o, h0, Nat.lt_of_lt_of_le h1 hb.size, (hb.cell (p := ⟨b, o + i * 2, none⟩) h1).trans h2, (hb.cell (p := ⟨b, o + i * 2 + 1, none⟩) h1).trans h3⟩
def rowsM (xs : List Mon) : List Value := xs.flatMap (fun t => [.string ⟨t.cur.toArray⟩, .string ⟨t.amt.toArray⟩])
theorem rowsM_cons (t : Mon) (xs : List Mon) : rowsM (t :: xs) = .string ⟨t.cur.toArray⟩ :: .string ⟨t.amt.toArray⟩ :: rowsM xs := rfl
theorem rowsM_len : ∀ xs : List Mon, (rowsM xs).length = xs.length * 2
  | [] => rfl
  | x :: xs => by rw [rowsM_cons]; simp only [List.length_cons]; rw [rowsM_len xs]; omega
theorem rowsM_app (xs ys : List Mon) : rowsM (xs ++ ys) = rowsM xs ++ rowsM ys := List.flatMap_append
theorem rowsM_at : ∀ {xs : List Mon} {i : Nat} {t : Mon}, xs[i]? = some t → (rowsM xs)[i * 2]? = some (.string ⟨t.cur.toArray⟩) ∧ (rowsM xs)[i * 2 + 1]? = some (.string ⟨t.amt.toArray⟩)
  | [], i, x, h => by simp at h
  | y :: xs, 0, x, h => by
    have : y = x := by simpa using h
    subst this; exact ⟨rfl, rfl⟩
  | y :: xs, i + 1, x, h => by
    have hh := rowsM_at (xs := xs) (i := i) (t := x) (by simpa using h)
    rw [rowsM_cons, show (i + 1) * 2 = i * 2 + 1 + 1 by omega]
    simpa [Nat.add_right_comm, Nat.add_assoc] using hh
theorem crow_mon {w : World} {g : Nat} {ty : TypeId} {xs : List Mon} (h : CRow w g ty (rowsM xs)) : MonAt w (some ⟨g, 0, none⟩) xs := fun i t ht => by
  obtain ⟨h0, h1⟩ := rowsM_at ht
  exact ⟨g, 0, rfl, h.lt, by rw [Nat.zero_add]; exact h.cell h0, by rw [Nat.zero_add]; exact h.cell h1⟩
theorem info_mon : (Tryz.prog.info? 48).map (fun i => (i.zero, i.size, i.bytes)) = some (some (.agg #[.string ⟨#[]⟩, .string ⟨#[]⟩]), 2, 32) := by kernel_rfl
theorem eqf_step {P : Program} {w : World} {d : Nat} {xs ys : Array Value} {f : Field} {fs : List Field} {a b : Value} {r B : Bool} (hn : f.name ≠ "_") (h1 : (part f.type xs f.offset).run P w = .ok a w) (h2 : (part f.type ys f.offset).run P w = .ok b w) (h3 : (Op.equalIn d f.type a b).run P w = .ok r w) (h4 : (Op.eqFields d xs ys fs).run P w = .ok B w) :
    (Op.eqFields d xs ys (f :: fs)).run P w = .ok (r && B) w := by
  unfold Op.eqFields
  rw [if_pos hn]
  simp only [Sem.run_bind, h1, h2, h3, Result.andThen_ok]
  cases r
  · simp
  · simp [h4]
theorem eqf_nil {P : Program} {w : World} {d : Nat} {xs ys : Array Value} : (Op.eqFields d xs ys []).run P w = .ok true w := by unfold Op.eqFields; simp
def sameM (x y : Mon) : Bool := (x.cur == y.cur) && ((x.amt == y.amt) && true)
set_option maxRecDepth 100000 in
theorem eqM1 (x y : Mon) (w : World) : (Op.equalIn 10000 48 (.agg #[.string ⟨x.cur.toArray⟩, .string ⟨x.amt.toArray⟩]) (.agg #[.string ⟨y.cur.toArray⟩, .string ⟨y.amt.toArray⟩])).run Tryz.prog w = .ok (sameM x y) w := by
  have hS : Tryz.prog.underlying 48 = some (.struct (Tryz.prog.fieldsOf 48)) := by kernel_rfl
  have hp : Tryz.prog.stoodInHeld 48 = false := by kernel_rfl
  rw [show (10000 : Nat) = 9999 + 1 from rfl, run_equalIn_agg w 9999 48 _ _ hS hp]
  simp only [Program.fieldsOf, Tryz.underlying48]
  unfold sameM
  exact (eqf_step (by decide) (a := .string ⟨x.cur.toArray⟩) (b := .string ⟨y.cur.toArray⟩) (by go_simp) (by go_simp) (by rw [run_equalIn_string w 9998 _ _ _ Tryz.underlying9]; simp) (eqf_step (by decide) (a := .string ⟨x.amt.toArray⟩) (b := .string ⟨y.amt.toArray⟩) (by go_simp) (by go_simp) (by rw [run_equalIn_string w 9998 _ _ _ Tryz.underlying23]; simp) eqf_nil))
theorem guardM : Tryz.prog.eqGuardType Tryz.prog.depth 48 = false := by kernel_rfl
def sameMs : List Mon → List Mon → Bool
  | [], [] => true
  | x :: xs, y :: ys => sameM x y && sameMs xs ys
  | _, _ => false
theorem sameMs_len : ∀ {xs ys : List Mon}, xs.length ≠ ys.length → sameMs xs ys = false
  | [], [], h => absurd rfl h
  | [], _ :: _, _ => rfl
  | _ :: _, [], _ => rfl
  | x :: xs, y :: ys, h => by
    have : sameMs xs ys = false := sameMs_len (fun e => h (by simp [e]))
    simp [sameMs, this]
theorem sameMs_self : ∀ xs : List Mon, sameMs xs xs = true
  | [] => rfl
  | x :: xs => by simp [sameMs, sameM, sameMs_self xs]
theorem sameMs_drop {xs ys : List Mon} {k : Nat} {x y : Mon} (hx : xs[k]? = some x) (hy : ys[k]? = some y) : sameMs (xs.drop k) (ys.drop k) = (sameM x y && sameMs (xs.drop (k + 1)) (ys.drop (k + 1))) := by
  obtain ⟨h1, rfl⟩ := List.getElem?_eq_some_iff.1 hx
  obtain ⟨h2, rfl⟩ := List.getElem?_eq_some_iff.1 hy
  rw [List.drop_eq_getElem_cons h1, List.drop_eq_getElem_cons h2]; rfl
set_option maxHeartbeats 4000000 in
set_option maxRecDepth 100000 in
theorem eqMs (A B : Option Addr) (xs ys : List Mon) (n m c c' : Nat) (w : World) (hn : xs.length = n) (hm : ys.length = m) (hn2 : n ≤ 1000000000) (hm2 : m ≤ 1000000000) (h : MonAt w A xs) (h' : MonAt w B ys) :
    Calls Tryz.prog 26 #[.slice A n c, .slice B m c'] w fun e w' => e = .returned (.bool (sameMs xs ys)) ∧ Below w.heap.size w w' := by
  by_cases hnm : n = m
  rotate_left
  · have HV : Hid (sameMs xs ys = false) := sameMs_len (by omega)
    have e1 : ((n : Int) == (m : Int)) = false := intbne (by omega)
    have e2 := bneq' e1
    rw [HV.out]
    clear h h' hn hm hnm
    go_enter Tryz.func26, Tryz.ntmps26
    go_wp2
    go_ret
    exact ⟨rfl, Below.refl _ _⟩
  subst hnm
  have H1 := Lib.hid h
  have H2 := Lib.hid h'
  have hn1 : xs.length ≤ n := by omega
  have hn3 : n ≤ xs.length := by omega
  have hm1 : ys.length ≤ n := by omega
  have hm3 : n ≤ ys.length := by omega
  clear h h' hn hm
  go_enter Tryz.func26, Tryz.ntmps26
  go_wp2_with fail
  go_loopw [13] (fun iv wr => ∃ k : Nat, k ≤ n ∧ iv = .int .i64 (k : Int) ∧ Hid (sameMs xs ys = sameMs (xs.drop k) (ys.drop k)) ∧ Below w.heap.size w wr) (fun iv _ => n - (intOf iv).toNat)
  case atStart => exact ⟨0, Nat.zero_le _, rfl, rfl, Below.refl _ _⟩
  case round =>
    obtain ⟨k, hk, rfl, HK, hb⟩ := hrel
    by_cases hlt : k < n
    · obtain ⟨x, hx⟩ : ∃ x, xs[k]? = some x := ⟨_, List.getElem?_eq_getElem (by omega)⟩
      obtain ⟨y, hy⟩ : ∃ y, ys[k]? = some y := ⟨_, List.getElem?_eq_getElem (by omega)⟩
      obtain ⟨b, o, rfl, hbs, px0, px1⟩ := (H1.out.below hb) k x hx
      obtain ⟨b', o', rfl, hds, py0, py1⟩ := (H2.out.below hb) k y hy
      have HD := Lib.hid (sameMs_drop hx hy)
      clear hx hy
      go_wp2_with fail
      refine wp_region_kept (by kernel_rfl) (by kernel_rfl) ?_
      refine kept_val _ (fun _ => rfl) (fun ρ w hw => by go_simp; first | done | with_reducible rfl) ?_
      simp only [Act.put, List.setIfInBounds_toArray, List.set_cons_zero, List.set_cons_succ, Nat.reduceAdd]
      refine kept_val _ (fun _ => rfl) (fun ρ w hw => by go_simp; first | done | with_reducible rfl) ?_
      simp only [Act.put, List.setIfInBounds_toArray, List.set_cons_zero, List.set_cons_succ, Nat.reduceAdd]
      refine kept_val _ (fun _ => rfl) (fun ρ w hw => by go_simp; first | done | with_reducible rfl) ?_
      simp only [Act.put, List.setIfInBounds_toArray, List.set_cons_zero, List.set_cons_succ, Nat.reduceAdd]
      refine kept_val _ (fun _ => rfl) (fun ρ w hw => by have q0 := (hw.cell (p := ⟨b, o + k * 2, none⟩) hbs).trans px0; have q1 := (hw.cell (p := ⟨b, o + k * 2 + 1, none⟩) hbs).trans px1; go_simp; first | done | with_reducible rfl) ?_
      simp only [Act.put, List.setIfInBounds_toArray, List.set_cons_zero, List.set_cons_succ, Nat.reduceAdd]
      refine kept_val _ (fun _ => rfl) (fun ρ w hw => by go_simp; first | done | with_reducible rfl) ?_
      simp only [Act.put, List.setIfInBounds_toArray, List.set_cons_zero, List.set_cons_succ, Nat.reduceAdd]
      refine kept_val _ (fun _ => rfl) (fun ρ w hw => by go_simp; first | done | with_reducible rfl) ?_
      simp only [Act.put, List.setIfInBounds_toArray, List.set_cons_zero, List.set_cons_succ, Nat.reduceAdd]
      refine kept_val _ (fun _ => rfl) (fun ρ w hw => by go_simp; first | done | with_reducible rfl) ?_
      simp only [Act.put, List.setIfInBounds_toArray, List.set_cons_zero, List.set_cons_succ, Nat.reduceAdd]
      refine kept_val _ (fun _ => rfl) (fun ρ w hw => by have q0 := (hw.cell (p := ⟨b', o' + k * 2, none⟩) hds).trans py0; have q1 := (hw.cell (p := ⟨b', o' + k * 2 + 1, none⟩) hds).trans py1; go_simp; first | done | with_reducible rfl) ?_
      simp only [Act.put, List.setIfInBounds_toArray, List.set_cons_zero, List.set_cons_succ, Nat.reduceAdd]
      refine kept_val _ (fun _ => rfl) (fun ρ w hw => by have hE := eqM1 x y; have hEG := guardM; go_simp; first | done | with_reducible rfl) ?_
      simp only [Act.put, List.setIfInBounds_toArray, List.set_cons_zero, List.set_cons_succ, Nat.reduceAdd]
      refine kept_end (fun ρ w6 hF => ?_)
      replace hb := bto hb hF.below
      clear hF
      cases hs : sameM x y
      · have HV : Hid (sameMs xs ys = false) := by show _ = _; rw [HK.out, HD.out, hs]; rfl
        clear hs HK HD px0 py0 px1 py1
        go_wp2
        go_ret
        exact ⟨by rw [HV.out]; first | done | rfl, hb⟩
      · have HV : Hid (sameMs xs ys = sameMs (xs.drop (k + 1)) (ys.drop (k + 1))) := by show _ = _; rw [HK.out, HD.out, hs]; rfl
        clear hs HK HD px0 py0 px1 py1
        go_wp2
        go_roundw
        case rel => exact ⟨k + 1, by omega, by go_num, HV, hb⟩
        case measure => simp [intOf]; omega
    · have HV : Hid (sameMs xs ys = true) := by show _ = _; rw [HK.out, List.drop_of_length_le (by omega), List.drop_of_length_le (by omega)]; rfl
      clear HK
      go_wp2
      go_ret
      exact ⟨by rw [HV.out]; first | done | rfl, hb⟩
theorem MonAt.take {w : World} {A : Option Addr} {ts : List Mon} (h : MonAt w A ts) (k : Nat) : MonAt w A (ts.take k) := fun i t ht => by
  rw [List.getElem?_take] at ht
  split at ht
  · exact h i t ht
  · cases ht
end Go.Proofs.YtgnppdkeiihlfaaGreatDoor
namespace Go.Proofs.YtgnppdkeiihlfaaGreatDoor
open Go.RowKit
section
variable {P : Program} {md : Region.Mode}
/-- each operation but the last is used by a later one; each waits for earlier ones alone -/
def usedB (md : Region.Mode) (l : List Oper) (st : Oper) : Bool :=
  (List.range l.length).all (fun i => (((l ++ [st]).drop (i + 1))).any (fun o => o.after.any (fun e => Region.binds md e && e.on == i))) &&
  (List.range (l.length + 1)).all (fun j => (((l ++ [st])[j]?).map (fun o => o.after.all (fun e => decide (e.on < j)))).getD true)
theorem usedB_use {l : List Oper} {st : Oper} (h : usedB md l st = true) {i : Nat} (hi : i < l.length) : ∃ j o e, i < j ∧ (l ++ [st])[j]? = some o ∧ e ∈ o.after ∧ Region.binds md e = true ∧ e.on = i := by
  simp only [usedB, Bool.and_eq_true, List.all_eq_true, List.mem_range, List.any_eq_true] at h
  obtain ⟨o, ho, hh⟩ := h.1 i hi
  obtain ⟨k, hk⟩ := List.mem_iff_getElem?.1 ho
  rw [List.getElem?_drop] at hk
  rw [Array.any_eq_true] at hh
  obtain ⟨m, hm, he⟩ := hh
  simp only [Bool.and_eq_true, beq_iff_eq] at he
  exact ⟨i + 1 + k, o, o.after[m], by omega, hk, Array.getElem_mem hm, he.1, he.2⟩
theorem usedB_back {l : List Oper} {st : Oper} (h : usedB md l st = true) {j : Nat} {o : Oper} (ho : (l ++ [st])[j]? = some o) : ∀ e ∈ o.after, e.on < j := by
  simp only [usedB, Bool.and_eq_true, List.all_eq_true, List.mem_range] at h
  have hj : j < l.length + 1 := by have := (List.getElem?_eq_some_iff.1 ho).1; simpa using this
  have h2 := h.2 j hj
  rw [ho] at h2
  simp only [Option.map_some, Option.getD_some, Array.all_eq_true_iff_forall_mem] at h2
  intro e he
  simpa using h2 e he
structure Tw (l : List Oper) (st : Oper) (md : Region.Mode) (listed listed0 : Array Bool) : Prop where
  s : listed.size = l.length + 1
  s0 : listed0.size = l.length
  same : ∀ j, j < l.length → listed.getD j true = listed0.getD j true
  last : listed.getD l.length true = false
  down : ∀ j o, j < l.length → listed.getD j true = true → (l ++ [st])[j]? = some o → ∀ e ∈ o.after, Region.binds md e = true → listed.getD e.on true = true
theorem getD_tf {x : Array Bool} {j : Nat} (h : j < x.size) : x.getD j true = x.getD j false := by simp [h]
theorem Tw.all {l : List Oper} {st : Oper} {listed listed0 : Array Bool} (t : Tw l st md listed listed0) (hU : usedB md l st = true) (h : Region.ready md l.toArray listed0 = []) : ∀ j, j < l.length → listed0.getD j true = true := by
  intro j
  induction j using Nat.strongRecOn with
  | _ j ih =>
    intro hj
    by_cases hx : listed0.getD j true = true
    · exact hx
    · have : j ∈ Region.ready md l.toArray listed0 := by
        rw [mem_ready]
        refine ⟨by simpa using hx, l[j], by simp [hj], fun e he _ => ?_⟩
        have h1 : (l ++ [st])[j]? = some l[j] := by rw [List.getElem?_append_left hj]; simp [hj]
        have h2 := usedB_back hU h1 e he
        rw [← getD_tf (by rw [t.s0]; omega)]
        exact ih e.on h2 (by omega)
      rw [h] at this; cases this
theorem Tw.ready_last {l : List Oper} {st : Oper} {listed listed0 : Array Bool} (t : Tw l st md listed listed0) (hU : usedB md l st = true) (h : ∀ j, j < l.length → listed0.getD j true = true) : l.length ∈ Region.ready md (l ++ [st]).toArray listed := by
  rw [mem_ready]
  refine ⟨t.last, st, by simp, fun e he _ => ?_⟩
  have h2 := usedB_back hU (j := l.length) (o := st) (by simp) e he
  rw [← getD_tf (by rw [t.s]; omega), t.same _ h2]
  exact h _ h2
theorem Tw.of_last {l : List Oper} {st : Oper} {listed listed0 : Array Bool} (t : Tw l st md listed listed0) (hU : usedB md l st = true) (h : l.length ∈ Region.ready md (l ++ [st]).toArray listed) : ∀ j, j < l.length → listed0.getD j true = true := by
  obtain ⟨_, o, ho, hall⟩ := mem_ready.1 h
  have hst : o = st := by simpa using ho.symm
  subst hst
  have key : ∀ m j, l.length - j ≤ m → j < l.length → listed.getD j true = true := by
    intro m
    induction m with
    | zero => intro j h1 h2; omega
    | succ m ih =>
      intro j h1 h2
      obtain ⟨k, o', e, hk, ho', he, hb, rfl⟩ := usedB_use hU h2
      by_cases hkl : k < l.length
      · exact t.down k o' hkl (ih k (by omega) hkl) ho' e he hb
      · have hk2 : k = l.length := by have := (List.getElem?_eq_some_iff.1 ho').1; simp at this; omega
        subst hk2
        have ho2 : o' = o := by simpa using ho'.symm
        subst ho2
        have := hall e he hb
        rw [getD_tf (by rw [t.s]; omega)]
        exact this
  intro j hj
  rw [← t.same j hj]
  exact key _ j (Nat.le_refl _) hj
theorem Tw.ready {l : List Oper} {st : Oper} {listed listed0 : Array Bool} (t : Tw l st md listed listed0) (hU : usedB md l st = true) {i : Nat} (hi : i < l.length) (h : i ∈ Region.ready md (l ++ [st]).toArray listed) : i ∈ Region.ready md l.toArray listed0 := by
  obtain ⟨h0, o, ho, hall⟩ := mem_ready.1 h
  have ho2 : (l ++ [st])[i]? = some o := by simpa using ho
  rw [mem_ready]
  refine ⟨by rw [← t.same i hi]; exact h0, o, by rw [List.getElem?_append_left hi] at ho2; simpa using ho2, fun e he hb => ?_⟩
  have h2 := usedB_back hU ho2 e he
  have h3 := hall e he hb
  rw [← getD_tf (by rw [t.s0]; omega), ← t.same e.on (by omega), getD_tf (by rw [t.s]; omega)]
  exact h3
theorem Tw.step {l : List Oper} {st : Oper} {listed listed0 : Array Bool} (t : Tw l st md listed listed0) (hU : usedB md l st = true) {i : Nat} (hi : i < l.length) (h : i ∈ Region.ready md (l ++ [st]).toArray listed) : Tw l st md (listed.setIfInBounds i true) (listed0.setIfInBounds i true) := by
  obtain ⟨h0, o, ho, hall⟩ := mem_ready.1 h
  have ho2 : (l ++ [st])[i]? = some o := by simpa using ho
  refine ⟨by simp [t.s], by simp [t.s0], fun j hj => ?_, by rw [getD_set_ne true (by omega)]; exact t.last, fun j o' hj hl ho' e he hb => ?_⟩
  · by_cases hij : i = j
    · subst hij; simp [t.s, t.s0, hi, Nat.lt_succ_of_lt hi]
    · rw [getD_set_ne true hij, getD_set_ne true hij]; exact t.same j hj
  · by_cases hij : i = j
    · subst hij
      have : o' = o := by rw [ho2] at ho'; injection ho' with h; exact h.symm
      subst this
      have h2 := usedB_back hU ho2 e he
      have h3 := hall e he hb
      rw [getD_set_ne true (by omega), getD_tf (by rw [t.s]; omega)]
      exact h3
    · rw [getD_set_ne true hij] at hl
      have := t.down j o' hj hl ho' e he hb
      by_cases hie : i = e.on
      · rw [← hie]; simp [t.s, Nat.lt_succ_of_lt hi]
      · rw [getD_set_ne true hie]; exact this
end
end Go.Proofs.YtgnppdkeiihlfaaGreatDoor
namespace Go.Proofs.YtgnppdkeiihlfaaGreatDoor
open Go.RowKit
section
variable {P : Program} {md : Region.Mode}
theorem Oper.wp_mono2 {o : Oper} {a : Act} {w : World} {K K' : Act → World → Prop} {Q Q' : Exit → Act → World → Prop} (h : ∀ a w, K a w → K' a w) (hp : ∀ c a w, Q (.panic c) a w → Q' (.panic c) a w) (hl : LetsOut Q → LetsOut Q')
    (hh : o.wp P a w K Q) : o.wp P a w K' Q' := by
  unfold Oper.wp at *
  generalize (execOp a.eval o).run P w = r at *
  cases r with
  | ok n w' =>
    cases n <;> simp only [Oper.upon] at hh ⊢ <;>
      first
        | exact h _ _ hh
        | exact Calls.mono hh (fun e w'' he => by
            cases e <;> first
              | exact h _ _ he
              | exact hp _ _ _ he
              | exact hl he)
        | exact Rows.mono hh (fun _ _ he => h _ _ he)
  | halt x w' =>
    cases x <;> simp only [Oper.upon] at hh ⊢ <;> first
      | exact hp _ _ _ hh
      | exact hh
theorem wanted_free {o : Oper} (h : o.guard = none) (f : Nat → Option Bool) : Region.wanted o f = true := by unfold Region.wanted; rw [h]
theorem wpAny_snoc {L : List Oper} {st : Oper} {Q : Exit → Act → World → Prop} (hU : usedB md L st = true) (hg : st.guard = none) (hgs : ∀ o ∈ L, o.guard = none) :
    ∀ (fuel : Nat) (listed listed0 : Array Bool) (a : Act) (w : World), Tw L st md listed listed0 →
    wpAny P md L.toArray (Exit.then (wpList P (L ++ [st]).toArray Q [st]) Q) fuel listed0 a w → wpAny P md (L ++ [st]).toArray Q (fuel + 1) listed a w := by
  have lo : LetsOut (Exit.then (wpList P (L ++ [st]).toArray Q [st]) Q) → LetsOut Q := fun ⟨a, w, h⟩ => ⟨a, w, h⟩
  have fin : ∀ (fuel : Nat) (listed listed0 : Array Bool) (a : Act) (w : World), Tw L st md listed listed0 → (∀ j, j < L.length → listed0.getD j true = true) → wpList P (L ++ [st]).toArray Q [st] a w →
      wpOp P (L ++ [st]).toArray Q L.length (wpAny P md (L ++ [st]).toArray Q fuel (listed.setIfInBounds L.length true)) a w := by
    intro fuel listed listed0 a w t hall h
    have hnone : Region.ready md (L ++ [st]).toArray (listed.setIfInBounds L.length true) = [] := by
      apply List.eq_nil_iff_forall_not_mem.2
      intro j hj
      have hj0 := (mem_ready.1 hj).1
      by_cases hjl : j = L.length
      · subst hjl; simp [t.s] at hj0
      · have hlt : j < L.length := by
          obtain ⟨o, ho, _⟩ := (mem_ready.1 hj).2
          have := (Array.getElem?_eq_some_iff.1 ho).1; simp at this; omega
        rw [getD_set_ne true (by omega), t.same j hlt, hall j hlt] at hj0; cases hj0
    have hK : ∀ a w, Q .normal a w → wpAny P md (L ++ [st]).toArray Q fuel (listed.setIfInBounds L.length true) a w := by
      intro a w hq
      cases fuel with
      | zero => exact ⟨hnone, hq⟩
      | succ n => exact ⟨fun _ => hq, fun j hj => by rw [hnone] at hj; cases hj⟩
    unfold wpList at h
    unfold wpOp
    simp only [List.getElem?_toArray, List.getElem?_append_right (Nat.le_refl _), Nat.sub_self, List.getElem?_cons_zero]
    simp only [wanted_free hg, if_true] at h ⊢
    rcases h with h | h
    · exact .inl (Oper.wp_mono (fun a w h => hK a w h) h)
    · exact .inr h
  intro fuel
  induction fuel with
  | zero =>
    intro listed listed0 a w t h
    have hall := t.all hU h.1
    refine ⟨fun h0 => ?_, fun i hi => ?_⟩
    · have := t.ready_last hU hall; rw [h0] at this; cases this
    · by_cases hil : i < L.length
      · have := t.ready hU hil hi; rw [h.1] at this; cases this
      · have hi2 : i = L.length := by
          obtain ⟨o, ho, _⟩ := (mem_ready.1 hi).2
          have := (Array.getElem?_eq_some_iff.1 ho).1; simp at this; omega
        subst hi2
        exact fin 0 _ _ _ _ t hall h.2
  | succ fuel ih =>
    intro listed listed0 a w t h
    refine ⟨fun h0 => ?_, fun i hi => ?_⟩
    · have hr0 : Region.ready md L.toArray listed0 = [] := by
        apply List.eq_nil_iff_forall_not_mem.2
        intro j hj
        obtain ⟨j0, o, ho, hall⟩ := mem_ready.1 hj
        have hjl : j < L.length := by have := (Array.getElem?_eq_some_iff.1 ho).1; simpa using this
        have : j ∈ Region.ready md (L ++ [st]).toArray listed := by
          rw [mem_ready]
          have ho2 : (L ++ [st])[j]? = some o := by rw [List.getElem?_append_left hjl]; simpa using ho
          refine ⟨by rw [t.same j hjl]; exact j0, o, by simpa using ho2, fun e he hb => ?_⟩
          have h2 := usedB_back hU ho2 e he
          have h3 := hall e he hb
          rw [← getD_tf (by rw [t.s]; omega), t.same e.on (by omega), getD_tf (by rw [t.s0]; omega)]
          exact h3
        rw [h0] at this; cases this
      have := t.ready_last hU (t.all hU hr0); rw [h0] at this; cases this
    · by_cases hil : i < L.length
      · have hi0 := t.ready hU hil hi
        have h1 := h.2 i hi0
        have t' := t.step hU hil hi
        obtain ⟨hun, o, ho, _⟩ := mem_ready.1 hi0
        have hoL : o ∈ L := by
          have : L[i]? = some o := by simpa using ho
          exact List.mem_of_getElem? this
        have ho2 : (L ++ [st]).toArray[i]? = some o := by
          have : (L ++ [st])[i]? = some o := by rw [List.getElem?_append_left hil]; simpa using ho
          simpa using this
        unfold wpOp at h1 ⊢
        simp only [ho, ho2, wanted_free (hgs o hoL), if_true] at h1 ⊢
        rcases h1 with h1 | h1
        · exact .inl (Oper.wp_mono2 (fun a w h => ih _ _ _ _ t' h) (fun _ _ _ h => h) lo h1)
        · exact .inr ⟨h1.1, lo h1.2⟩
      · have hi2 : i = L.length := by
          obtain ⟨o, ho, _⟩ := (mem_ready.1 hi).2
          have := (Array.getElem?_eq_some_iff.1 ho).1; simp at this; omega
        subst hi2
        have hall := t.of_last hU hi
        have hr0 : Region.ready md L.toArray listed0 = [] := by
          apply List.eq_nil_iff_forall_not_mem.2
          intro j hj
          obtain ⟨j0, o, ho, _⟩ := mem_ready.1 hj
          have hjl : j < L.length := by have := (Array.getElem?_eq_some_iff.1 ho).1; simpa using this
          rw [hall j hjl] at j0; cases j0
        exact fin (fuel + 1) _ _ _ _ t hall (h.1 hr0)
theorem tw_start (L : List Oper) (st : Oper) : Tw L st md (Array.replicate (L ++ [st]).toArray.size false) (Array.replicate L.toArray.size false) := by
  refine ⟨by simp, by simp, fun j hj => ?_, ?_, fun j o hj hl => ?_⟩
  · simp [hj, Nat.lt_succ_of_lt hj]
  · simp
  · simp [Nat.lt_succ_of_lt hj] at hl
end
end Go.Proofs.YtgnppdkeiihlfaaGreatDoor
namespace Go.Proofs.YtgnppdkeiihlfaaGreatDoor
open Go.RowKit
section
variable {P : Program} {md : Region.Mode} {F : Fence} {n : Nat}
end
end Go.Proofs.YtgnppdkeiihlfaaGreatDoor
namespace Go.Proofs.YtgnppdkeiihlfaaGreatDoor
open Go.RowKit
section
variable {P : Program} {ops : Array Oper} {md : Region.Mode}
structure BelowX (X : Nat → Prop) (w w' : World) : Prop where
  os : w'.os = w.os
  tape : w'.tape = w.tape
  output : w'.output = w.output
  size : w.heap.size ≤ w'.heap.size
  block : ∀ k, k < w.heap.size → ¬ X k → w'.heap[k]? = w.heap[k]?
structure FitsX (X : Nat → Prop) (w0 : World) (ρ : Nat → Nat) (B : Bx) (w : World) : Prop where
  below : BelowX X w0 w
  box : ∀ i s ob, B i = some (s, ob) → (w0.heap.size ≤ ρ i ∨ X (ρ i)) ∧ w.heap[ρ i]? = some ob
  ne : ∀ i j, B i ≠ none → B j ≠ none → ρ i = ρ j → i = j
variable {X : Nat → Prop}
theorem FitsX.go {w0 w w' : World} {ρ : Nat → Nat} {B : Bx} (h : FitsX X w0 ρ B w) (hb : Below w.heap.size w w') : FitsX X w0 ρ B w' := by
  refine ⟨⟨hb.os.trans h.below.os, hb.tape.trans h.below.tape, hb.output.trans h.below.output, Nat.le_trans h.below.size hb.size, fun k hk hx => (hb.block k (Nat.lt_of_lt_of_le hk h.below.size)).trans (h.below.block k hk hx)⟩, fun i s ob hi => ?_, h.ne⟩
  obtain ⟨h1, h2⟩ := h.box i s ob hi
  exact ⟨h1, (hb.block _ (Array.getElem?_eq_some_iff.1 h2).1).trans h2⟩
theorem FitsX.alloc {w0 w : World} {ρ : Nat → Nat} {B : Bx} (h : FitsX X w0 ρ B w) (i : Nat) (mk : Nat → Value) (ob : Obj) :
    FitsX X w0 (upd ρ i w.heap.size) ((Out.box mk ob).bx i B) (w.alloc ob) := by
  have hlt : ∀ k, B k ≠ none → ρ k < w.heap.size := fun k hk => by
    cases hB : B k with
    | none => exact absurd hB hk
    | some o => exact (Array.getElem?_eq_some_iff.1 (h.box k o.1 o.2 hB).2).1
  refine ⟨⟨h.below.os, h.below.tape, h.below.output, by rw [World.size_alloc]; have := h.below.size; omega, fun k hk hx => (Below.heap_alloc w ob k (by have := h.below.size; omega)).trans (h.below.block k hk hx)⟩, fun k s o hk => ?_, fun k l hk hl he => ?_⟩
  · simp only [Out.bx, upd] at *
    by_cases hki : k = i
    · rw [if_pos hki] at hk ⊢
      simp only [Option.some.injEq, Prod.mk.injEq] at hk
      obtain ⟨-, rfl⟩ := hk
      exact ⟨.inl h.below.size, by show (w.heap.push ob)[w.heap.size]? = _; simp⟩
    · rw [if_neg hki] at hk ⊢
      obtain ⟨h1, h2⟩ := h.box k s o hk
      exact ⟨h1, (Below.heap_alloc w ob _ (hlt k (by rw [hk]; simp))).trans h2⟩
  · simp only [Out.bx, upd] at *
    by_cases hki : k = i <;> by_cases hli : l = i
    · rw [hki, hli]
    · rw [if_pos hki, if_neg hli] at he
      rw [if_neg hli] at hl
      have := hlt l hl; omega
    · rw [if_neg hki, if_pos hli] at he
      rw [if_neg hki] at hk
      have := hlt k hk; omega
    · rw [if_neg hki, if_neg hli] at he
      rw [if_neg hki] at hk
      rw [if_neg hli] at hl
      exact h.ne k l hk hl he
theorem FitsX.turn {w0 w w' : World} {ρ : Nat → Nat} {B : Bx} (h : FitsX X w0 ρ B w) {i k : Nat} {ob0 ob : Obj} (hB : B k = some (false, ob0)) (ht : Turned w w' (ρ k) ob) :
    FitsX X w0 ρ ((Out.put k ob0 ob).bx i B) w' := by
  have hk := (h.box k _ _ hB).1
  refine ⟨⟨ht.os.trans h.below.os, ht.tape.trans h.below.tape, ht.output.trans h.below.output, by rw [ht.size]; exact h.below.size, fun b hb hx => (ht.old b (fun e => by subst e; rcases hk with hk | hk; · omega
                                                                                                                                                                          · exact hx hk)).trans (h.below.block b hb hx)⟩, fun l s o hl => ?_, fun l m hl hm he => ?_⟩
  · simp only [Out.bx] at hl
    by_cases hlk : l = k
    · rw [if_pos hlk] at hl
      simp only [Option.some.injEq, Prod.mk.injEq] at hl
      obtain ⟨-, rfl⟩ := hl
      rw [hlk]
      exact ⟨hk, ht.new⟩
    · rw [if_neg hlk] at hl
      obtain ⟨h1, h2⟩ := h.box l s o hl
      exact ⟨h1, (ht.old _ (fun e => hlk (h.ne l k (by rw [hl]; simp) (by rw [hB]; simp) e))).trans h2⟩
  · have hf : ∀ l, (Out.put k ob0 ob).bx i B l ≠ none → B l ≠ none := fun l hl => by
      simp only [Out.bx] at hl
      by_cases hlk : l = k
      · rw [hlk, hB]; simp
      · rwa [if_neg hlk] at hl
    exact h.ne l m (hf l hl) (hf m hm) he
end
end Go.Proofs.YtgnppdkeiihlfaaGreatDoor
namespace Go.Proofs.YtgnppdkeiihlfaaGreatDoor
open Go.RowKit
section
variable {P : Program} {ops : Array Oper} {C : World → Prop} {Q : St → Bx → Prop} {rest : List Oper} {i : Nat} {a : St} {B : Bx} {o : Oper}
theorem turnedC (w : World) (b j : Nat) (cs : Array Value) (x : Value) (t : TypeId) (h : w.heap[b]? = some (.cells cs t (0, 0))) : Turned w (w.setCell ⟨b, j, none⟩ x) b (.cells (cs.setIfInBounds j x) t (0, 0)) := by
  refine ⟨rfl, rfl, rfl, by simp, ?_, fun k hk => Below.heap_setCell w ⟨b, j, none⟩ x k hk⟩
  obtain ⟨hlt, hk⟩ := Array.getElem?_eq_some_iff.1 h
  show (w.heap.modify b _)[b]? = _
  rw [Array.getElem?_eq_getElem (by rw [Array.size_modify]; exact hlt), Array.getElem_modify_self, hk]
  rfl
section
variable {md : Region.Mode}
end
end
end Go.Proofs.YtgnppdkeiihlfaaGreatDoor
