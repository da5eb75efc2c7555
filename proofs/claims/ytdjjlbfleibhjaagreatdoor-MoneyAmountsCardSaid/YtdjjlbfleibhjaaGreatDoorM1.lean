/- Texts put together: Bh Ia Ib Ic Ma Mb Mc Mp Mz Mr Bq Br Tr. -/
import Derived.Test.YtdjjlbfleibhjaaGreatDoorBk
import Derived.Laws.IdiomStrings
import Derived.Shelf.SlicesE.Clone
import Derived.Laws.StructEq
import Derived.OrdersIn
import Derived.TacticsIn
namespace Go.Proofs.YtdjjlbfleibhjaaGreatDoor
open Go.RowKit Num
theorem all_snoc' {p : UInt8 → Bool} {r : List UInt8} {k : Nat} {x : UInt8} (h : (r.take k).all p = true) (hx : r[k]? = some x) (h1 : p x = true) : (r.take (k + 1)).all p = true := by
  obtain ⟨hk, rfl⟩ := List.getElem?_eq_some_iff.1 hx
  rw [List.take_succ_eq_append_getElem hk, List.all_append, h]
  simp [h1]
theorem all_no' {p : UInt8 → Bool} {r : List UInt8} {k : Nat} {x : UInt8} (hx : r[k]? = some x) (h1 : p x = false) : r.all p = false := by
  rw [List.all_eq_false]; exact ⟨x, List.mem_of_getElem? hx, by simp [h1]⟩
theorem retb {a b : Bool} (h : a = b) : Ending.returned (.bool a) = .returned (.bool b) := by rw [h]
theorem bneq {a b : Int} (h : (a == b) = true) : (a != b) = false := by simp [bne, h]
theorem bneq' {a b : Int} (h : (a == b) = false) : (a != b) = true := by simp [bne, h]
theorem not_true_b {b : Bool} (h : ¬ b = true) : b = false := by cases b <;> simp_all
theorem reti {a b : Int} (h : a = b) : Ending.returned (.int .i64 a) = .returned (.int .i64 b) := by rw [h]
/-- a block that is known whole -/
def Blk (w : World) (b : Nat) (cs : Array Value) : Prop := ∃ t, w.heap[b]? = some (.cells cs t (0, 0))
section
variable {w w' : World} {b : Nat} {cs : Array Value}
theorem Blk.new (w : World) (cs : Array Value) (t : TypeId) : Blk (w.alloc (.cells cs t)) w.heap.size cs := ⟨t, heap_alloc_new w _⟩
theorem Blk.below (h : Blk w b cs) (hb : Below w.heap.size w w') : Blk w' b cs := by
  obtain ⟨t, h⟩ := h
  exact ⟨t, (hb.block b (Array.getElem?_eq_some_iff.1 h).1).trans h⟩
theorem Blk.c (h : Blk w b cs) (i : Nat) : w.cell? ⟨b, i, none⟩ = cs[i]? := by
  obtain ⟨t, h⟩ := h
  exact blk_cell h i
theorem Blk.f (h : Blk w b cs) (i : Nat) : w.frozen? ⟨b, i, none⟩ = false := by
  obtain ⟨t, h⟩ := h
  exact blk_frozen h i
theorem Blk.lt (h : Blk w b cs) : b < w.heap.size := by
  obtain ⟨t, h⟩ := h
  exact (Array.getElem?_eq_some_iff.1 h).1
end
theorem intbeq {a b : Int} (h : a = b) : (a == b) = true := by rw [beq_iff_eq]; exact h
theorem intbne {a b : Int} (h : ¬ a = b) : (a == b) = false := by rw [beq_eq_false_iff_ne]; exact h
end Go.Proofs.YtdjjlbfleibhjaaGreatDoor
namespace Go.Proofs.YtdjjlbfleibhjaaGreatDoor
open Go.RowKit Num
def codeC (c : UInt8) : Bool := decide (65 ≤ c.toNat) && decide (c.toNat ≤ 90)
def codeB (l : List UInt8) : Bool := decide (l.length = 3) && l.all codeC
end Go.Proofs.YtdjjlbfleibhjaaGreatDoor
namespace Go.Proofs.YtdjjlbfleibhjaaGreatDoor
open Go.RowKit Num
theorem codeC_iff (c : UInt8) : codeC c = true ↔ 65 ≤ c.toNat ∧ c.toNat ≤ 90 := by simp [codeC]
end Go.Proofs.YtdjjlbfleibhjaaGreatDoor
namespace Go.Proofs.YtdjjlbfleibhjaaGreatDoor
open Go.RowKit Num
/-! States. -/
end Go.Proofs.YtdjjlbfleibhjaaGreatDoor
namespace Go.Proofs.YtdjjlbfleibhjaaGreatDoor
open Go.RowKit Num
set_option maxHeartbeats 1000000 in
theorem mCode {l : List UInt8} (hl : l.length ≤ 9223372036854775807) : Ret 79 #[.string ⟨l.toArray⟩] (.bool (codeB l)) := fun w hG => by
  have hb := Below.refl w.heap.size w
  have HN : Hid (l.all codeC = false → codeB l = false) := by intro h; unfold codeB; rw [h, Bool.and_false]
  have HY : Hid (l.all codeC = true → ((l.length : Int) == 3) = codeB l) := by intro h; unfold codeB; rw [h, Bool.and_true]; by_cases h3 : l.length = 3 <;> simp [h3] <;> omega
  go_enter Tryz.func79, Tryz.ntmps79
  go_wp2_with fail
  go_loop [6] (fun iv => ∃ k : Nat, k ≤ l.length ∧ iv = .int .i64 (k : Int) ∧ Hid ((l.take k).all codeC = true)) (fun iv => l.length - (intOf iv).toNat)
  case atStart => exact ⟨0, Nat.zero_le _, rfl, rfl⟩
  case round =>
    obtain ⟨k, hk, rfl, HK⟩ := hrel
    by_cases hlt : k < l.length
    · have hlt' : k < (⟨l.toArray⟩ : ByteArray).size := by show k < l.toArray.size; simpa using hlt
      obtain ⟨x, hx⟩ : ∃ x, x = (⟨l.toArray⟩ : ByteArray)[k] := ⟨_, rfl⟩
      have hxl : l[k]? = some x := by rw [hx]; simp [hlt]; rfl
      have HX := Lib.hid hxl
      clear hxl
      have hx2 : ∀ hp, (⟨l.toArray⟩ : ByteArray)[k]'hp = x := fun _ => hx.symm
      clear hx
      by_cases d1 : (x.toNat : Int) < 65
      · have ed1 : decide ((x.toNat : Int) < 65) = true := decide_eq_true d1
        go_wp2
        go_ret
        exact ⟨retb (HN.out (all_no' HX.out (not_true_b (fun h => by have := (codeC_iff _).1 h; omega)))).symm, hb⟩
      · have ed1 : decide ((x.toNat : Int) < 65) = false := decide_eq_false d1
        by_cases d2 : 90 < (x.toNat : Int)
        · have ed2 : decide (90 < (x.toNat : Int)) = true := decide_eq_true d2
          go_wp2
          go_ret
          exact ⟨retb (HN.out (all_no' HX.out (not_true_b (fun h => by have := (codeC_iff _).1 h; omega)))).symm, hb⟩
        · have ed2 : decide (90 < (x.toNat : Int)) = false := decide_eq_false d2
          go_wp2
          go_round
          case rel => exact ⟨k + 1, by omega, by go_num, all_snoc' HK.out HX.out ((codeC_iff _).2 (by omega))⟩
          case measure => simp [intOf]; omega
    · have HK' : Hid (l.all codeC = true) := by have := HK.out; rw [List.take_of_length_le (by omega)] at this; exact this
      clear HK
      go_wp2
      go_ret
      exact ⟨retb (HY.out HK'.out), hb⟩
set_option maxHeartbeats 1000000 in
theorem jCode5L {l : List UInt8} (hl : l.length ≤ 9223372036854775807) : Ret 81 #[.string ⟨l.toArray⟩] (.bool (codeB l)) := fun w hG => by
  have hb := Below.refl w.heap.size w
  have HN : Hid (l.all codeC = false → codeB l = false) := by intro h; unfold codeB; rw [h, Bool.and_false]
  have HY : Hid (l.all codeC = true → ((l.length : Int) == 3) = codeB l) := by intro h; unfold codeB; rw [h, Bool.and_true]; by_cases h3 : l.length = 3 <;> simp [h3] <;> omega
  go_enter Tryz.func81, Tryz.ntmps81
  go_wp2_with fail
  go_loop [3] (fun iv => ∃ k : Nat, k ≤ l.length ∧ iv = .int .i64 (k : Int) ∧ Hid ((l.take k).all codeC = true)) (fun iv => l.length - (intOf iv).toNat)
  case atStart => exact ⟨0, Nat.zero_le _, rfl, rfl⟩
  case round =>
    obtain ⟨k, hk, rfl, HK⟩ := hrel
    by_cases hlt : k < l.length
    · have hlt' : k < (⟨l.toArray⟩ : ByteArray).size := by show k < l.toArray.size; simpa using hlt
      obtain ⟨x, hx⟩ : ∃ x, x = (⟨l.toArray⟩ : ByteArray)[k] := ⟨_, rfl⟩
      have hxl : l[k]? = some x := by rw [hx]; simp [hlt]; rfl
      have HX := Lib.hid hxl
      clear hxl
      have hx2 : ∀ hp, (⟨l.toArray⟩ : ByteArray)[k]'hp = x := fun _ => hx.symm
      clear hx
      by_cases d1 : (x.toNat : Int) < 65
      · have ed1 : decide ((x.toNat : Int) < 65) = true := decide_eq_true d1
        go_wp2
        go_ret
        exact ⟨retb (HN.out (all_no' HX.out (not_true_b (fun h => by have := (codeC_iff _).1 h; omega)))).symm, hb⟩
      · have ed1 : decide ((x.toNat : Int) < 65) = false := decide_eq_false d1
        by_cases d2 : 90 < (x.toNat : Int)
        · have ed2 : decide (90 < (x.toNat : Int)) = true := decide_eq_true d2
          go_wp2
          go_ret
          exact ⟨retb (HN.out (all_no' HX.out (not_true_b (fun h => by have := (codeC_iff _).1 h; omega)))).symm, hb⟩
        · have ed2 : decide (90 < (x.toNat : Int)) = false := decide_eq_false d2
          go_wp2
          go_round
          case rel => exact ⟨k + 1, by omega, by go_num, all_snoc' HK.out HX.out ((codeC_iff _).2 (by omega))⟩
          case measure => simp [intOf]; omega
    · have HK' : Hid (l.all codeC = true) := by have := HK.out; rw [List.take_of_length_le (by omega)] at this; exact this
      clear HK
      go_wp2
      go_ret
      exact ⟨retb (HY.out HK'.out), hb⟩
/-- a currency -/
structure Cur where
  code : List UInt8
  places : Int
/-- a slice of currencies -/
def CurAt (w : World) (A : Option Addr) (ts : List Cur) : Prop := ∀ (i : Nat) (t : Cur), ts[i]? = some t → ∃ b o, A = some ⟨b, o, none⟩ ∧ b < w.heap.size ∧ w.cell? ⟨b, o + i * 2, none⟩ = some (.string ⟨t.code.toArray⟩) ∧ w.cell? ⟨b, o + i * 2 + 1, none⟩ = some (.int .i64 t.places)
theorem CurAt.below {w w' : World} {A : Option Addr} {ts : List Cur} (h : CurAt w A ts) (hb : Below w.heap.size w w') : CurAt w' A ts := fun i t ht => by
  obtain ⟨b, o, rfl, h1, h2, h3⟩ := h i t ht
  exact ⟨b, o, rfl, Nat.lt_of_lt_of_le h1 hb.size, (hb.cell (p := ⟨b, o + i * 2, none⟩) h1).trans h2, (hb.cell (p := ⟨b, o + i * 2 + 1, none⟩) h1).trans h3⟩
theorem CurAt.take {w : World} {A : Option Addr} {ts : List Cur} (h : CurAt w A ts) (k : Nat) : CurAt w A (ts.take k) := fun i t ht => by
  rw [List.getElem?_take] at ht
  split at ht
  · exact h i t ht
  · cases ht
/-- the first currency with a code -/
def findT (ts : List Cur) (code : List UInt8) : Option Cur := ts.find? (fun t => t.code == code)
theorem findT_drop {ts : List Cur} {code : List UInt8} {k : Nat} {t : Cur} (h : ts[k]? = some t) : findT (ts.drop k) code = if t.code = code then some t else findT (ts.drop (k + 1)) code := by
  obtain ⟨hk, rfl⟩ := List.getElem?_eq_some_iff.1 h
  unfold findT
  rw [List.drop_eq_getElem_cons hk, List.find?_cons]
  by_cases h1 : ts[k].code = code
  · rw [if_pos h1]; simp [h1]
  · rw [if_neg h1]
    have : (ts[k].code == code) = false := by rw [beq_eq_false_iff_ne]; exact h1
    rw [this]
def curV : Option Cur → Value
  | some t => .tuple #[.agg #[.string ⟨t.code.toArray⟩, .int .i64 t.places], .bool true]
  | none => .tuple #[.agg #[.string ⟨#[]⟩, .int .i64 0], .bool false]
theorem mFindClo (t : Cur) (code : List UInt8) (bc : Nat) (w : World) (hc : w.cell? ⟨bc, 0, none⟩ = some (.string ⟨code.toArray⟩)) (hlt : bc < w.heap.size) {r : Bool} (hr : (t.code == code) = r) :
    Calls Tryz.prog 95 #[.agg #[.string ⟨t.code.toArray⟩, .int .i64 t.places], .pointer (some ⟨bc, 0, none⟩)] w fun e w' => e = .returned (.bool r) ∧ Below w.heap.size w w' := by
  have hb := below_alloc w (.cells #[.string ⟨t.code.toArray⟩, .int .i64 t.places] 47)
  have q0 := (hb.cell (p := ⟨bc, 0, none⟩) hlt).trans hc
  go_enter Tryz.func95, Tryz.ntmps95
  go_wp2
  go_ret
  exact ⟨rfl, hb⟩
set_option maxHeartbeats 2000000 in
set_option maxRecDepth 100000 in
theorem mfind (A : Option Addr) (ts : List Cur) (c : Nat) (code : List UInt8) (bc : Nat) (w : World) (hn : ts.length ≤ 1000000000) (h : CurAt w A ts) (hc : w.cell? ⟨bc, 0, none⟩ = some (.string ⟨code.toArray⟩)) (hlt : bc < w.heap.size) :
    Calls Tryz.prog 94 #[.slice A ts.length c, .func (Fn.func 95) #[] #[.pointer (some ⟨bc, 0, none⟩)]] w fun e w' => e = .returned (curV (findT ts code)) ∧ Below w.heap.size w w' := by
  have HI := Lib.hid h
  have HC := Lib.hid hc
  have x4 := FBox.new w (.string ⟨#[]⟩) (.int .i64 0) 47
  have hb0 := below_alloc w (.cells #[.string ⟨#[]⟩, .int .i64 0] 47)
  clear h hc
  go_enter Tryz.func94, Tryz.ntmps94
  go_wp2_with fail
  go_loopw [11] (fun iv wr => ∃ k : Nat, k ≤ ts.length ∧ iv = .int .i64 (k : Int) ∧ Hid (findT ts code = findT (ts.drop k) code) ∧ FBox wr w.heap.size (.string ⟨#[]⟩) (.int .i64 0) ∧ Below w.heap.size w wr) (fun iv _ => ts.length - (intOf iv).toNat)
  case atStart => exact ⟨0, Nat.zero_le _, rfl, rfl, x4, hb0⟩
  case round =>
    obtain ⟨k, hk, rfl, HK, y4, hb⟩ := hrel
    by_cases hlk : k < ts.length
    · obtain ⟨t, ht⟩ : ∃ t, ts[k]? = some t := ⟨_, List.getElem?_eq_getElem hlk⟩
      obtain ⟨b, o, rfl, hbs, p0, p1⟩ := (HI.out.below hb) k t ht
      have HD := Lib.hid (findT_drop (code := code) ht)
      have hbA := below_alloc wr (.cells #[.string ⟨t.code.toArray⟩, .int .i64 t.places] 47)
      have x7 := FBox.new wr (.string ⟨t.code.toArray⟩) (.int .i64 t.places) 47
      have qc := ((bto hb hbA).cell (p := ⟨bc, 0, none⟩) hlt).trans HC.out
      have hlt2 : bc < (wr.alloc (.cells #[.string ⟨t.code.toArray⟩, .int .i64 t.places] 47)).heap.size := Nat.lt_of_lt_of_le hlt (bto hb hbA).size
      have CF := Lib.hid (fun r hr => mFindClo t code bc _ qc hlt2 (r := r) hr)
      replace y4 := y4.below hbA
      replace hb := bto hb hbA
      clear ht hbA qc hlt2
      by_cases he : t.code = code
      · have e1 : (t.code == code) = true := by rw [beq_iff_eq]; exact he
        have H1 := Lib.hid (CF.out true e1)
        have HV : Hid (curV (findT ts code) = curV (some t)) := by show _ = _; rw [HK.out, HD.out, if_pos he]
        clear CF e1 he HD HK
        go_wp2_with fail
        ((with_reducible refine H1.out.mono ?_); rintro e w2 ⟨rfl, hb2⟩)
        replace y4 := y4.below hb2
        replace x7 := x7.below hb2
        replace hb := bto hb hb2
        have q0 := y4.c0
        have q1 := y4.c1
        have q2 := y4.f0
        have q3 := y4.f1
        have q4 := x7.c0
        have q5 := x7.c1
        go_wp2
        have hy := y4.set (.string ⟨t.code.toArray⟩) (.int .i64 t.places)
        have d0 := hy.c0
        have d1 := hy.c1
        refine bodyPost_ret (v := .tuple #[.agg #[.string ⟨t.code.toArray⟩, .int .i64 t.places], .bool true]) (by simp [results, Tryz.results94, go_sem, d0, d1]) rfl ?_
        exact ⟨by rw [HV.out]; rfl, below_set2 hb (Nat.le_refl _) _ _⟩
      · have e1 : (t.code == code) = false := by rw [beq_eq_false_iff_ne]; exact he
        have H1 := Lib.hid (CF.out false e1)
        have HV : Hid (findT ts code = findT (ts.drop (k + 1)) code) := by show _ = _; rw [HK.out, HD.out, if_neg he]
        clear CF e1 he HD HK
        go_wp2_with fail
        ((with_reducible refine H1.out.mono ?_); rintro e w2 ⟨rfl, hb2⟩)
        replace y4 := y4.below hb2
        replace hb := bto hb hb2
        clear hb2 x7 H1
        go_wp2
        go_roundw
        case rel => exact ⟨k + 1, by omega, by go_num, HV, y4, hb⟩
        case measure => simp [intOf]; omega
    · have HV : Hid (curV (findT ts code) = curV none) := by show _ = _; rw [HK.out, List.drop_of_length_le (by omega)]; rfl
      have hbA := below_alloc wr (.cells #[.string ⟨#[]⟩, .int .i64 0] 47)
      replace y4 := y4.below hbA
      replace hb := bto hb hbA
      have q0 := y4.c0
      have q1 := y4.c1
      have q2 := y4.f0
      have q3 := y4.f1
      clear hbA
      go_wp2
      have hy := y4.set (.string ⟨#[]⟩) (.int .i64 0)
      have d0 := hy.c0
      have d1 := hy.c1
      refine bodyPost_ret (v := .tuple #[.agg #[.string ⟨#[]⟩, .int .i64 0], .bool false]) (by simp [results, Tryz.results94, go_sem, d0, d1]) rfl ?_
      exact ⟨by rw [HV.out]; rfl, below_set2 hb (Nat.le_refl _) _ _⟩
end Go.Proofs.YtdjjlbfleibhjaaGreatDoor
namespace Go.Proofs.YtdjjlbfleibhjaaGreatDoor
open Go.RowKit Num
set_option maxHeartbeats 1000000 in
set_option maxRecDepth 100000 in
theorem mFind (A : Option Addr) (ts : List Cur) (n c : Nat) (code : List UInt8) (w : World) (hn : ts.length = n) (hn2 : n ≤ 1000000000) (h : CurAt w A ts) :
    Calls Tryz.prog 32 #[.slice A n c, .string ⟨code.toArray⟩] w fun e w' => e = .returned (curV (findT ts code)) ∧ Below w.heap.size w w' := by
  subst hn
  have hbA := below_alloc w (.cells #[.string ⟨code.toArray⟩] 9)
  have hbB := below_alloc (w.alloc (.cells #[.string ⟨code.toArray⟩] 9)) (.cells #[.string ⟨#[]⟩, .int .i64 0] 47)
  have x3 : Blk _ w.heap.size #[.string ⟨code.toArray⟩] := (Blk.new w #[.string ⟨code.toArray⟩] 9).below hbB
  have x4 := FBox.new (w.alloc (.cells #[.string ⟨code.toArray⟩] 9)) (.string ⟨#[]⟩) (.int .i64 0) 47
  rw [World.size_alloc] at x4
  have hb := bto hbA hbB
  have CF := Lib.hid (mfind A ts c code w.heap.size _ hn2 (h.below hb) (x3.c 0) x3.lt)
  clear hbA hbB x3
  generalize findT ts code = fo at CF ⊢
  cases fo with
  | none =>
    unfold curV at CF ⊢
    go_enter Tryz.func32, Tryz.ntmps32
    go_wp2_with fail
    ((with_reducible refine CF.out.mono ?_); rintro e w2 ⟨rfl, hb2⟩)
    replace x4 := x4.below hb2
    replace hb := bto hb hb2
    have q0 := x4.c0
    have q1 := x4.c1
    have q2 := x4.f0
    have q3 := x4.f1
    clear hb2 CF
    go_wp2
    have hy := x4.set (.string ⟨#[]⟩) (.int .i64 0)
    have d0 := hy.c0
    have d1 := hy.c1
    refine bodyPost_ret (v := .tuple #[.agg #[.string ⟨#[]⟩, .int .i64 0], .bool false]) (by simp [results, Tryz.results32, go_sem, d0, d1]) rfl ?_
    exact ⟨rfl, below_set2 hb (Nat.le_succ _) _ _⟩
  | some t =>
    unfold curV at CF ⊢
    go_enter Tryz.func32, Tryz.ntmps32
    go_wp2_with fail
    ((with_reducible refine CF.out.mono ?_); rintro e w2 ⟨rfl, hb2⟩)
    replace x4 := x4.below hb2
    replace hb := bto hb hb2
    have q0 := x4.c0
    have q1 := x4.c1
    have q2 := x4.f0
    have q3 := x4.f1
    clear hb2 CF
    go_wp2
    have hy := x4.set (.string ⟨t.code.toArray⟩) (.int .i64 t.places)
    have d0 := hy.c0
    have d1 := hy.c1
    refine bodyPost_ret (v := .tuple #[.agg #[.string ⟨t.code.toArray⟩, .int .i64 t.places], .bool true]) (by simp [results, Tryz.results32, go_sem, d0, d1]) rfl ?_
    exact ⟨rfl, below_set2 hb (Nat.le_succ _) _ _⟩
/-- what CheckTable returns -/
def tabL (seen : List Cur) : List Cur → Int
  | [] => 0
  | t :: r => if ¬ codeB t.code = true then 23 else if t.places < 0 ∨ 12 < t.places then 2 else if (findT seen t.code).isSome = true then 5 else tabL (seen ++ [t]) r
def tabE (ts : List Cur) : Int := if 16 < ts.length then 4 else tabL [] ts
theorem tabL_step {ts : List Cur} {k : Nat} {t : Cur} (h : ts[k]? = some t) : tabL (ts.take k) (ts.drop k) = if ¬ codeB t.code = true then 23 else if t.places < 0 ∨ 12 < t.places then 2 else if (findT (ts.take k) t.code).isSome = true then 5 else tabL (ts.take (k + 1)) (ts.drop (k + 1)) := by
  obtain ⟨hk, rfl⟩ := List.getElem?_eq_some_iff.1 h
  rw [List.drop_eq_getElem_cons hk, List.take_succ_eq_append_getElem hk]; rfl
def ShortC (ts : List Cur) : Prop := ∀ t ∈ ts, t.code.length ≤ 9223372036854775807
set_option maxHeartbeats 4000000 in
set_option maxRecDepth 100000 in
theorem mTable (A : Option Addr) (ts : List Cur) (n c : Nat) (w : World) (hG : Glob w) (hn : ts.length = n) (hc : n ≤ c) (hs : ShortC ts) (h : CurAt w A ts) :
    Calls Tryz.prog 29 #[.slice A n c] w fun e w' => e = .returned (.int .i64 (tabE ts)) ∧ Below w.heap.size w w' := by
  by_cases h16 : 16 < n
  · have e1 : decide (16 < n) = true := decide_eq_true h16
    have HV : Hid (tabE ts = 4) := by show _ = _; unfold tabE; rw [if_pos (by omega)]
    go_enter Tryz.func29, Tryz.ntmps29
    go_wp2
    go_ret
    exact ⟨reti HV.out.symm, Below.refl _ _⟩
  have e1 : decide (16 < n) = false := decide_eq_false h16
  have HV : Hid (tabE ts = tabL [] ts) := by show _ = _; unfold tabE; rw [if_neg (by omega)]
  have HI := Lib.hid h
  have HN := Lib.hid hn
  have HS := Lib.hid hs
  have hn1 : ts.length ≤ n := by omega
  have hn2 : n ≤ ts.length := by omega
  clear h hn hs
  go_enter Tryz.func29, Tryz.ntmps29
  go_wp2_with fail
  clear e1
  go_loopw [12] (fun iv wr => ∃ k : Nat, k ≤ n ∧ iv = .int .i64 (k : Int) ∧ Hid (tabL [] ts = tabL (ts.take k) (ts.drop k)) ∧ Below w.heap.size w wr) (fun iv _ => n - (intOf iv).toNat)
  case atStart => exact ⟨0, Nat.zero_le _, rfl, rfl, Below.refl _ _⟩
  case round =>
    obtain ⟨k, hk, rfl, HK, hb⟩ := hrel
    by_cases hlk : k < n
    · obtain ⟨t, ht⟩ : ∃ t, ts[k]? = some t := ⟨_, List.getElem?_eq_getElem (by omega)⟩
      obtain ⟨b, o, rfl, hbs, p0, p1⟩ := (HI.out.below hb) k t ht
      have HD := Lib.hid (tabL_step ht)
      have hts := HS.out t (List.mem_of_getElem? ht)
      have hbA := below_alloc wr (.cells #[.string ⟨t.code.toArray⟩, .int .i64 t.places] 47)
      have x4 := FBox.new wr (.string ⟨t.code.toArray⟩) (.int .i64 t.places) 47
      replace hb := bto hb hbA
      have C1 := Lib.hid (mCode (l := t.code) (by omega))
      clear ht hbA
      by_cases g1 : codeB t.code = true
      rotate_left
      · have e1 := not_true_b g1
        have HQ : Hid (tabL [] ts = 23) := by show _ = _; rw [HK.out, HD.out, if_pos g1]
        clear g1 HK HD
        go_wp2_with fail
        ((with_reducible refine (C1.out.of hG hb).mono ?_); rintro e w2 ⟨rfl, hb2⟩)
        go_wp2
        go_ret
        exact ⟨reti (HV.out.trans HQ.out).symm, bto hb hb2⟩
      have e1 := g1
      go_wp2_with fail
      ((with_reducible refine (C1.out.of hG hb).mono ?_); rintro e w2 ⟨rfl, hb2⟩)
      replace x4 := x4.below hb2
      replace hb := bto hb hb2
      clear C1 hb2
      by_cases g2 : t.places < 0
      · have e2 : decide (t.places < 0) = true := decide_eq_true g2
        have HQ : Hid (tabL [] ts = 2) := by show _ = _; rw [HK.out, HD.out, if_neg (fun h => h g1), if_pos (.inl g2)]
        clear g1 HK HD
        have q0 := x4.c0
        have q1 := x4.c1
        go_wp2
        go_ret
        exact ⟨reti (HV.out.trans HQ.out).symm, hb⟩
      have e2 : decide (t.places < 0) = false := decide_eq_false g2
      by_cases g3 : 12 < t.places
      · have e3 : decide (12 < t.places) = true := decide_eq_true g3
        have HQ : Hid (tabL [] ts = 2) := by show _ = _; rw [HK.out, HD.out, if_neg (fun h => h g1), if_pos (.inr g3)]
        clear g1 HK HD
        have q0 := x4.c0
        have q1 := x4.c1
        go_wp2
        go_ret
        exact ⟨reti (HV.out.trans HQ.out).symm, hb⟩
      have e3 : decide (12 < t.places) = false := decide_eq_false g3
      have CF : ∀ w', Below w.heap.size w w' → Calls Tryz.prog 32 #[.slice (some ⟨b, o, none⟩) k c, .string ⟨t.code.toArray⟩] w' fun e w'' => e = .returned (curV (findT (ts.take k) t.code)) ∧ Below w'.heap.size w' w'' :=
        fun w' hb' => mFind _ (ts.take k) k c t.code w' (by rw [List.length_take]; omega) (by omega) ((HI.out.below hb').take k)
      have HQ : Hid (tabL [] ts = if (findT (ts.take k) t.code).isSome = true then 5 else tabL (ts.take (k + 1)) (ts.drop (k + 1))) := by show _ = _; rw [HK.out, HD.out, if_neg (fun h => h g1), if_neg (fun h => h.elim g2 g3)]
      clear g1 HK HD
      have q0 := x4.c0
      have q1 := x4.c1
      generalize hfo : findT (ts.take k) t.code = fo at CF HQ
      clear hfo
      have kk : k ≤ c := by omega
      cases fo with
      | none =>
        unfold curV at CF
        go_wp2_with fail
        clear q0 q1
        go_wp2_with fail
        refine wp_region_kept (by kernel_rfl) (by kernel_rfl) ?_
        refine kept_val _ (fun _ => rfl) (fun ρ w hw => by go_simp; first | done | with_reducible rfl) ?_
        simp only [Act.put, List.setIfInBounds_toArray, List.set_cons_zero, List.set_cons_succ, Nat.reduceAdd]
        refine kept_val _ (fun _ => rfl) (fun ρ w hw => by go_simp; first | done | with_reducible rfl) ?_
        simp only [Act.put, List.setIfInBounds_toArray, List.set_cons_zero, List.set_cons_succ, Nat.reduceAdd]
        refine kept_val _ (fun _ => rfl) (fun ρ w hw => by go_simp; first | done | with_reducible rfl) ?_
        simp only [Act.put, List.setIfInBounds_toArray, List.set_cons_zero, List.set_cons_succ, Nat.reduceAdd]
        refine kept_val _ (fun _ => rfl) (fun ρ w hw => by go_simp; first | done | with_reducible rfl) ?_
        simp only [Act.put, List.setIfInBounds_toArray, List.set_cons_zero, List.set_cons_succ, Nat.reduceAdd]
        refine kept_val _ (fun _ => rfl) (fun ρ w hw => by have q0 := (x4.below hw).c0; have q1 := (x4.below hw).c1; go_simp; first | done | with_reducible rfl) ?_
        simp only [Act.put, List.setIfInBounds_toArray, List.set_cons_zero, List.set_cons_succ, Nat.reduceAdd]
        refine kept_call _ _ _ (fun _ => rfl) (fun ρ w hw => by go_simp; first | done | with_reducible rfl) (fun w hw => (CF _ (bto hb hw))) ?_
        simp only [Act.put, List.setIfInBounds_toArray, List.set_cons_zero, List.set_cons_succ, Nat.reduceAdd]
        refine kept_val _ (fun _ => rfl) (fun ρ w hw => by go_simp; first | done | with_reducible rfl) ?_
        simp only [Act.put, List.setIfInBounds_toArray, List.set_cons_zero, List.set_cons_succ, Nat.reduceAdd]
        refine kept_val _ (fun _ => rfl) (fun ρ w hw => by go_simp; first | done | with_reducible rfl) ?_
        simp only [Act.put, List.setIfInBounds_toArray, List.set_cons_zero, List.set_cons_succ, Nat.reduceAdd]
        refine kept_val _ (fun _ => rfl) (fun ρ w hw => by go_simp; first | done | with_reducible rfl) ?_
        simp only [Act.put, List.setIfInBounds_toArray, List.set_cons_zero, List.set_cons_succ, Nat.reduceAdd]
        refine kept_box (fun b => .pointer (some ⟨b, 0, none⟩)) _ rfl (fun _ => rfl) (fun ρ w hw => by go_simp; first | done | with_reducible rfl) ?_
        simp only [Act.put, List.setIfInBounds_toArray, List.set_cons_zero, List.set_cons_succ, Nat.reduceAdd]
        refine kept_put2 9 _ 5 _ _ _ _ _ rfl rfl rfl (by decide) (fun _ => rfl) (fun ρ w hw q0 q1 q2 q3 => by go_simp; first | done | with_reducible rfl) ?_
        simp only [Act.put, Nat.reduceAdd]
        refine kept_val _ (fun _ => rfl) (fun ρ w hw => by go_simp; first | done | with_reducible rfl) ?_
        simp only [Act.put, List.setIfInBounds_toArray, List.set_cons_zero, List.set_cons_succ, Nat.reduceAdd]
        refine kept_end (fun ρ w2 hF => ?_)
        replace x4 := x4.below hF.below
        replace hb := bto hb hF.below
        have x5 := FBox.ofB (hF.box 9 _ _ rfl).2
        generalize ρ 9 = b5 at *
        clear hF
        clear CF
        go_wp2
        go_roundw
        case rel => exact ⟨k + 1, by omega, by go_num, HQ.out, hb⟩
        case measure => simp [intOf]; omega
      | some u =>
        unfold curV at CF
        go_wp2_with fail
        clear q0 q1
        go_wp2_with fail
        refine wp_region_kept (by kernel_rfl) (by kernel_rfl) ?_
        refine kept_val _ (fun _ => rfl) (fun ρ w hw => by go_simp; first | done | with_reducible rfl) ?_
        simp only [Act.put, List.setIfInBounds_toArray, List.set_cons_zero, List.set_cons_succ, Nat.reduceAdd]
        refine kept_val _ (fun _ => rfl) (fun ρ w hw => by go_simp; first | done | with_reducible rfl) ?_
        simp only [Act.put, List.setIfInBounds_toArray, List.set_cons_zero, List.set_cons_succ, Nat.reduceAdd]
        refine kept_val _ (fun _ => rfl) (fun ρ w hw => by go_simp; first | done | with_reducible rfl) ?_
        simp only [Act.put, List.setIfInBounds_toArray, List.set_cons_zero, List.set_cons_succ, Nat.reduceAdd]
        refine kept_val _ (fun _ => rfl) (fun ρ w hw => by go_simp; first | done | with_reducible rfl) ?_
        simp only [Act.put, List.setIfInBounds_toArray, List.set_cons_zero, List.set_cons_succ, Nat.reduceAdd]
        refine kept_val _ (fun _ => rfl) (fun ρ w hw => by have q0 := (x4.below hw).c0; have q1 := (x4.below hw).c1; go_simp; first | done | with_reducible rfl) ?_
        simp only [Act.put, List.setIfInBounds_toArray, List.set_cons_zero, List.set_cons_succ, Nat.reduceAdd]
        refine kept_call _ _ _ (fun _ => rfl) (fun ρ w hw => by go_simp; first | done | with_reducible rfl) (fun w hw => (CF _ (bto hb hw))) ?_
        simp only [Act.put, List.setIfInBounds_toArray, List.set_cons_zero, List.set_cons_succ, Nat.reduceAdd]
        refine kept_val _ (fun _ => rfl) (fun ρ w hw => by go_simp; first | done | with_reducible rfl) ?_
        simp only [Act.put, List.setIfInBounds_toArray, List.set_cons_zero, List.set_cons_succ, Nat.reduceAdd]
        refine kept_val _ (fun _ => rfl) (fun ρ w hw => by go_simp; first | done | with_reducible rfl) ?_
        simp only [Act.put, List.setIfInBounds_toArray, List.set_cons_zero, List.set_cons_succ, Nat.reduceAdd]
        refine kept_val _ (fun _ => rfl) (fun ρ w hw => by go_simp; first | done | with_reducible rfl) ?_
        simp only [Act.put, List.setIfInBounds_toArray, List.set_cons_zero, List.set_cons_succ, Nat.reduceAdd]
        refine kept_box (fun b => .pointer (some ⟨b, 0, none⟩)) _ rfl (fun _ => rfl) (fun ρ w hw => by go_simp; first | done | with_reducible rfl) ?_
        simp only [Act.put, List.setIfInBounds_toArray, List.set_cons_zero, List.set_cons_succ, Nat.reduceAdd]
        refine kept_put2 9 _ 5 _ _ _ _ _ rfl rfl rfl (by decide) (fun _ => rfl) (fun ρ w hw q0 q1 q2 q3 => by go_simp; first | done | with_reducible rfl) ?_
        simp only [Act.put, Nat.reduceAdd]
        refine kept_val _ (fun _ => rfl) (fun ρ w hw => by go_simp; first | done | with_reducible rfl) ?_
        simp only [Act.put, List.setIfInBounds_toArray, List.set_cons_zero, List.set_cons_succ, Nat.reduceAdd]
        refine kept_end (fun ρ w2 hF => ?_)
        replace x4 := x4.below hF.below
        replace hb := bto hb hF.below
        have x5 := FBox.ofB (hF.box 9 _ _ rfl).2
        generalize ρ 9 = b5 at *
        clear hF
        clear CF
        go_wp2
        go_ret
        exact ⟨reti (HV.out.trans HQ.out).symm, hb⟩
    · have HQ : Hid (tabL [] ts = 0) := by show _ = _; rw [HK.out, List.drop_of_length_le (by omega)]; rfl
      go_wp2
      go_ret
      exact ⟨reti (HV.out.trans HQ.out).symm, hb⟩
end Go.Proofs.YtdjjlbfleibhjaaGreatDoor
namespace Go.Proofs.YtdjjlbfleibhjaaGreatDoor
open Go.RowKit Num
theorem findT_at {ts : List Cur} {code : List UInt8} {k j : Nat} {u : Cur} (hj : j < k) (h : ts[j]? = some u) : findT ((ts.take k).drop j) code = if u.code = code then some u else findT ((ts.take k).drop (j + 1)) code :=
  findT_drop (by rw [List.getElem?_take, if_pos hj]; exact h)
set_option maxHeartbeats 4000000 in
set_option maxRecDepth 100000 in
theorem jTable (A : Option Addr) (ts : List Cur) (n c : Nat) (w : World) (hG : Glob w) (hn : ts.length = n) (hs : ShortC ts) (h : CurAt w A ts) :
    Calls Tryz.prog 75 #[.slice A n c] w fun e w' => e = .returned (.int .i64 (tabE ts)) ∧ Below w.heap.size w w' := by
  by_cases h16 : 16 < n
  · have e1 : decide (16 < n) = true := decide_eq_true h16
    have HV : Hid (tabE ts = 4) := by show _ = _; unfold tabE; rw [if_pos (by omega)]
    go_enter Tryz.func75, Tryz.ntmps75
    go_wp2
    go_ret
    exact ⟨reti HV.out.symm, Below.refl _ _⟩
  have e1 : decide (16 < n) = false := decide_eq_false h16
  have HV : Hid (tabE ts = tabL [] ts) := by show _ = _; unfold tabE; rw [if_neg (by omega)]
  have HI := Lib.hid h
  have HS := Lib.hid hs
  have hn1 : ts.length ≤ n := by omega
  have hn2 : n ≤ ts.length := by omega
  clear h hn hs
  go_enter Tryz.func75, Tryz.ntmps75
  go_wp2_with fail
  clear e1
  go_loopw [3, 4] (fun iv _ wr => ∃ k : Nat, k ≤ n ∧ iv = .int .i64 (k : Int) ∧ Hid (tabL [] ts = tabL (ts.take k) (ts.drop k)) ∧ Below w.heap.size w wr) (fun iv _ _ => n - (intOf iv).toNat)
  case atStart => exact ⟨0, Nat.zero_le _, rfl, rfl, Below.refl _ _⟩
  case round =>
    obtain ⟨k, hk, rfl, HK, hb⟩ := hrel
    by_cases hlk : k < n
    · obtain ⟨t, ht⟩ : ∃ t, ts[k]? = some t := ⟨_, List.getElem?_eq_getElem (by omega)⟩
      obtain ⟨b, o, rfl, hbs, p0, p1⟩ := (HI.out.below hb) k t ht
      have HD := Lib.hid (tabL_step ht)
      have hts := HS.out t (List.mem_of_getElem? ht)
      have C1 := Lib.hid (jCode5L (l := t.code) (by omega))
      clear ht
      by_cases g1 : codeB t.code = true
      rotate_left
      · have e1 := not_true_b g1
        have HQ : Hid (tabL [] ts = 23) := by show _ = _; rw [HK.out, HD.out, if_pos g1]
        clear g1 HK HD
        go_wp2_with fail
        ((with_reducible refine (C1.out.of hG hb).mono ?_); rintro e w2 ⟨rfl, hb2⟩)
        go_wp2
        go_ret
        exact ⟨reti (HV.out.trans HQ.out).symm, bto hb hb2⟩
      have e1 := g1
      go_wp2_with fail
      ((with_reducible refine (C1.out.of hG hb).mono ?_); rintro e w2 ⟨rfl, hb2⟩)
      replace p0 := (hb2.cell (p := ⟨b, o + k * 2, none⟩) hbs).trans p0
      replace p1 := (hb2.cell (p := ⟨b, o + k * 2 + 1, none⟩) hbs).trans p1
      replace hbs := Nat.lt_of_lt_of_le hbs hb2.size
      replace hb := bto hb hb2
      clear C1 hb2
      by_cases g2 : t.places < 0
      · have e2 : decide (t.places < 0) = true := decide_eq_true g2
        have HQ : Hid (tabL [] ts = 2) := by show _ = _; rw [HK.out, HD.out, if_neg (fun h => h g1), if_pos (.inl g2)]
        clear g1 HK HD
        go_wp2
        go_ret
        exact ⟨reti (HV.out.trans HQ.out).symm, hb⟩
      have e2 : decide (t.places < 0) = false := decide_eq_false g2
      by_cases g3 : 12 < t.places
      · have e3 : decide (12 < t.places) = true := decide_eq_true g3
        have HQ : Hid (tabL [] ts = 2) := by show _ = _; rw [HK.out, HD.out, if_neg (fun h => h g1), if_pos (.inr g3)]
        clear g1 HK HD
        go_wp2
        go_ret
        exact ⟨reti (HV.out.trans HQ.out).symm, hb⟩
      have e3 : decide (12 < t.places) = false := decide_eq_false g3
      have HQ : Hid (tabL [] ts = if (findT (ts.take k) t.code).isSome = true then 5 else tabL (ts.take (k + 1)) (ts.drop (k + 1))) := by show _ = _; rw [HK.out, HD.out, if_neg (fun h => h g1), if_neg (fun h => h.elim g2 g3)]
      clear g1 HK HD
      go_wp2_with fail
      clear e1 e2 e3 p1
      have P0 := Lib.hid p0
      have HB := Lib.hid hb
      have HBS := Lib.hid hbs
      clear p0 hb hbs
      obtain ⟨wo, hwo⟩ : ∃ wo : World, wo = w2 := ⟨_, rfl⟩
      go_loopw [4] (fun jv wi => ∃ j : Nat, j ≤ k ∧ jv = .int .i64 (j : Int) ∧ Hid (findT (ts.take k) t.code = findT ((ts.take k).drop j) t.code) ∧ Below w2.heap.size w2 wi) (fun jv _ => k - (intOf jv).toNat)
      case atStart => exact ⟨0, Nat.zero_le _, rfl, rfl, Below.refl _ _⟩
      case round =>
        obtain ⟨j, hj, rfl, HJ, hbi⟩ := hrel
        have hb := bto HB.out hbi
        by_cases hjk : j < k
        · obtain ⟨u, hu⟩ : ∃ u, ts[j]? = some u := ⟨_, List.getElem?_eq_getElem (by omega)⟩
          obtain ⟨b', o', hA, hbs', pj, -⟩ := (HI.out.below hb) j u hu
          injection hA with hA
          injection hA with hA1 hA2
          subst hA1 hA2
          have HF := Lib.hid (findT_at (code := t.code) hjk hu)
          have p0 := (hbi.cell (p := ⟨b, o + k * 2, none⟩) HBS.out).trans P0.out
          have hbs := hbs'
          clear hu hbs'
          have hjn : j < n := by omega
          by_cases he : u.code = t.code
          · have e1 : (u.code == t.code) = true := by rw [beq_iff_eq]; exact he
            have HR : Hid (tabL [] ts = 5) := by show _ = _; rw [HQ.out, HJ.out, HF.out, if_pos he]; rfl
            clear he HJ HF HQ
            go_wp2_with fail
            refine wp_region_kept (by kernel_rfl) (by kernel_rfl) ?_
            refine kept_val _ (fun _ => rfl) (fun ρ w hw => by go_simp; first | done | with_reducible rfl) ?_
            simp only [Act.put, List.setIfInBounds_toArray, List.set_cons_zero, List.set_cons_succ, Nat.reduceAdd]
            refine kept_val _ (fun _ => rfl) (fun ρ w hw => by go_simp; first | done | with_reducible rfl) ?_
            simp only [Act.put, List.setIfInBounds_toArray, List.set_cons_zero, List.set_cons_succ, Nat.reduceAdd]
            refine kept_val _ (fun _ => rfl) (fun ρ w hw => by go_simp; first | done | with_reducible rfl) ?_
            simp only [Act.put, List.setIfInBounds_toArray, List.set_cons_zero, List.set_cons_succ, Nat.reduceAdd]
            refine kept_val _ (fun _ => rfl) (fun ρ w hw => by go_simp; first | done | with_reducible rfl) ?_
            simp only [Act.put, List.setIfInBounds_toArray, List.set_cons_zero, List.set_cons_succ, Nat.reduceAdd]
            refine kept_val _ (fun _ => rfl) (fun ρ w hw => by have q0 := (hw.cell (p := ⟨b, o + j * 2, none⟩) hbs).trans pj; go_simp; first | done | with_reducible rfl) ?_
            simp only [Act.put, List.setIfInBounds_toArray, List.set_cons_zero, List.set_cons_succ, Nat.reduceAdd]
            refine kept_val _ (fun _ => rfl) (fun ρ w hw => by go_simp; first | done | with_reducible rfl) ?_
            simp only [Act.put, List.setIfInBounds_toArray, List.set_cons_zero, List.set_cons_succ, Nat.reduceAdd]
            refine kept_val _ (fun _ => rfl) (fun ρ w hw => by go_simp; first | done | with_reducible rfl) ?_
            simp only [Act.put, List.setIfInBounds_toArray, List.set_cons_zero, List.set_cons_succ, Nat.reduceAdd]
            refine kept_val _ (fun _ => rfl) (fun ρ w hw => by go_simp; first | done | with_reducible rfl) ?_
            simp only [Act.put, List.setIfInBounds_toArray, List.set_cons_zero, List.set_cons_succ, Nat.reduceAdd]
            refine kept_val _ (fun _ => rfl) (fun ρ w hw => by go_simp; first | done | with_reducible rfl) ?_
            simp only [Act.put, List.setIfInBounds_toArray, List.set_cons_zero, List.set_cons_succ, Nat.reduceAdd]
            refine kept_val _ (fun _ => rfl) (fun ρ w hw => by have q0 := (hw.cell (p := ⟨b, o + k * 2, none⟩) hbs).trans p0; go_simp; first | done | with_reducible rfl) ?_
            simp only [Act.put, List.setIfInBounds_toArray, List.set_cons_zero, List.set_cons_succ, Nat.reduceAdd]
            refine kept_val _ (fun _ => rfl) (fun ρ w hw => by go_simp; first | done | with_reducible rfl) ?_
            simp only [Act.put, List.setIfInBounds_toArray, List.set_cons_zero, List.set_cons_succ, Nat.reduceAdd]
            refine kept_end (fun ρ w6 hF => ?_)
            replace hb := bto hb hF.below
            clear hF
            go_wp2
            go_ret
            exact ⟨reti (HV.out.trans HR.out).symm, hb⟩
          · have e1 : (u.code == t.code) = false := by rw [beq_eq_false_iff_ne]; exact he
            have HJ2 : Hid (findT (ts.take k) t.code = findT ((ts.take k).drop (j + 1)) t.code) := by show _ = _; rw [HJ.out, HF.out, if_neg he]
            clear he HJ HF
            have hb := hbi
            go_wp2_with fail
            refine wp_region_kept (by kernel_rfl) (by kernel_rfl) ?_
            refine kept_val _ (fun _ => rfl) (fun ρ w hw => by go_simp; first | done | with_reducible rfl) ?_
            simp only [Act.put, List.setIfInBounds_toArray, List.set_cons_zero, List.set_cons_succ, Nat.reduceAdd]
            refine kept_val _ (fun _ => rfl) (fun ρ w hw => by go_simp; first | done | with_reducible rfl) ?_
            simp only [Act.put, List.setIfInBounds_toArray, List.set_cons_zero, List.set_cons_succ, Nat.reduceAdd]
            refine kept_val _ (fun _ => rfl) (fun ρ w hw => by go_simp; first | done | with_reducible rfl) ?_
            simp only [Act.put, List.setIfInBounds_toArray, List.set_cons_zero, List.set_cons_succ, Nat.reduceAdd]
            refine kept_val _ (fun _ => rfl) (fun ρ w hw => by go_simp; first | done | with_reducible rfl) ?_
            simp only [Act.put, List.setIfInBounds_toArray, List.set_cons_zero, List.set_cons_succ, Nat.reduceAdd]
            refine kept_val _ (fun _ => rfl) (fun ρ w hw => by have q0 := (hw.cell (p := ⟨b, o + j * 2, none⟩) hbs).trans pj; go_simp; first | done | with_reducible rfl) ?_
            simp only [Act.put, List.setIfInBounds_toArray, List.set_cons_zero, List.set_cons_succ, Nat.reduceAdd]
            refine kept_val _ (fun _ => rfl) (fun ρ w hw => by go_simp; first | done | with_reducible rfl) ?_
            simp only [Act.put, List.setIfInBounds_toArray, List.set_cons_zero, List.set_cons_succ, Nat.reduceAdd]
            refine kept_val _ (fun _ => rfl) (fun ρ w hw => by go_simp; first | done | with_reducible rfl) ?_
            simp only [Act.put, List.setIfInBounds_toArray, List.set_cons_zero, List.set_cons_succ, Nat.reduceAdd]
            refine kept_val _ (fun _ => rfl) (fun ρ w hw => by go_simp; first | done | with_reducible rfl) ?_
            simp only [Act.put, List.setIfInBounds_toArray, List.set_cons_zero, List.set_cons_succ, Nat.reduceAdd]
            refine kept_val _ (fun _ => rfl) (fun ρ w hw => by go_simp; first | done | with_reducible rfl) ?_
            simp only [Act.put, List.setIfInBounds_toArray, List.set_cons_zero, List.set_cons_succ, Nat.reduceAdd]
            refine kept_val _ (fun _ => rfl) (fun ρ w hw => by have q0 := (hw.cell (p := ⟨b, o + k * 2, none⟩) hbs).trans p0; go_simp; first | done | with_reducible rfl) ?_
            simp only [Act.put, List.setIfInBounds_toArray, List.set_cons_zero, List.set_cons_succ, Nat.reduceAdd]
            refine kept_val _ (fun _ => rfl) (fun ρ w hw => by go_simp; first | done | with_reducible rfl) ?_
            simp only [Act.put, List.setIfInBounds_toArray, List.set_cons_zero, List.set_cons_succ, Nat.reduceAdd]
            refine kept_end (fun ρ w6 hF => ?_)
            replace hb := bto hb hF.below
            clear hF
            go_wp2
            go_roundw
            case rel => exact ⟨j + 1, by omega, by go_num, HJ2, hb⟩
            case measure => simp [intOf]; omega
        · have HR : Hid (tabL [] ts = tabL (ts.take (k + 1)) (ts.drop (k + 1))) := by
            show _ = _
            rw [HQ.out, HJ.out, List.drop_of_length_le (by rw [List.length_take]; omega)]; rfl
          clear HJ HQ
          go_wp2
          go_roundw
          case rel => exact ⟨k + 1, by omega, by go_num, HR, hb⟩
          case measure => simp [intOf]; omega
    · have HQ : Hid (tabL [] ts = 0) := by show _ = _; rw [HK.out, List.drop_of_length_le (by omega)]; rfl
      go_wp2
      go_ret
      exact ⟨reti (HV.out.trans HQ.out).symm, hb⟩
end Go.Proofs.YtdjjlbfleibhjaaGreatDoor
namespace Go.Proofs.YtdjjlbfleibhjaaGreatDoor
open Num Go.Op
/-- an amount of a currency -/
structure Mon where
  cur : List UInt8
  amt : List UInt8
theorem mon_eq {x y : Mon} (h1 : x.cur = y.cur) (h2 : x.amt = y.amt) : x = y := by
  cases x; cases y; simp at h1 h2; rw [h1, h2]
theorem ltS_irr : ∀ a : List UInt8, bytesLess a a = false
  | [] => rfl
  | a :: x => by
    have h := ltS_irr x
    simp [bytesLess, h]
theorem ltS_nil (b : List UInt8) : bytesLess b [] = false := by cases b <;> rfl
theorem ltS_cons {a b : UInt8} {x y : List UInt8} : bytesLess (a :: x) (b :: y) = true ↔ a < b ∨ (a = b ∧ bytesLess x y = true) := by simp [bytesLess]
theorem ltS_trans : ∀ {a b c : List UInt8}, bytesLess a b = true → bytesLess b c = true → bytesLess a c = true
  | _, _, [], _, h2 => by rw [ltS_nil] at h2; cases h2
  | _, [], _ :: _, h1, _ => by rw [ltS_nil] at h1; cases h1
  | [], _ :: _, _ :: _, _, _ => rfl
  | a :: x, b :: y, c :: z, h1, h2 => by
    rw [ltS_cons] at *
    rcases h1 with h1 | ⟨rfl, h1⟩
    · rcases h2 with h2 | ⟨rfl, h2⟩
      · exact .inl (UInt8.lt_trans h1 h2)
      · exact .inl h1
    · rcases h2 with h2 | ⟨rfl, h2⟩
      · exact .inl h2
      · exact .inr ⟨rfl, ltS_trans h1 h2⟩
theorem ltS_tri : ∀ a b : List UInt8, bytesLess a b = true ∨ a = b ∨ bytesLess b a = true
  | [], [] => .inr (.inl rfl)
  | [], _ :: _ => .inl rfl
  | _ :: _, [] => .inr (.inr rfl)
  | a :: x, b :: y => by
    rw [ltS_cons, ltS_cons]
    rcases Nat.lt_trichotomy a.toNat b.toNat with h | h | h
    · exact .inl (.inl (UInt8.lt_iff_toNat_lt.2 h))
    · obtain rfl := UInt8.toNat_inj.1 h
      rcases ltS_tri x y with h | h | h
      · exact .inl (.inr ⟨rfl, h⟩)
      · exact .inr (.inl (by rw [h]))
      · exact .inr (.inr (.inr ⟨rfl, h⟩))
    · exact .inr (.inr (.inl (UInt8.lt_iff_toNat_lt.2 h)))
theorem ltS_ne {a b : List UInt8} (h : bytesLess a b = true) : a ≠ b := fun e => by rw [e, ltS_irr] at h; cases h
theorem ltS_asym {a b : List UInt8} (h : bytesLess a b = true) : bytesLess b a = false := by
  cases h2 : bytesLess b a with
  | false => rfl
  | true => have := ltS_trans h h2; rw [ltS_irr] at this; cases this
/-- in order of currencies, each once -/
def Srt (xs : List Mon) : Prop := xs.Pairwise (fun x y => bytesLess x.cur y.cur = true)
/-- canonical amounts, none of them 0 -/
def Can (xs : List Mon) : Prop := ∀ x ∈ xs, x.amt = canon (val x.amt) ∧ x.amt ≠ []
/-- the amount in a currency -/
def zAt : List Mon → List UInt8 → Int
  | [], _ => 0
  | x :: r, c => if x.cur = c then val x.amt else zAt r c
theorem zAt_no : ∀ {xs : List Mon} {c : List UInt8}, (∀ x ∈ xs, x.cur ≠ c) → zAt xs c = 0
  | [], _, _ => rfl
  | x :: r, c, h => by
    show (if x.cur = c then val x.amt else zAt r c) = 0
    rw [if_neg (h x (List.mem_cons_self ..))]
    exact zAt_no fun y hy => h y (List.mem_cons_of_mem _ hy)
theorem srt_tail {x : Mon} {r : List Mon} (h : Srt (x :: r)) : Srt r := (List.pairwise_cons.1 h).2
theorem srt_head {x : Mon} {r : List Mon} (h : Srt (x :: r)) : ∀ y ∈ r, bytesLess x.cur y.cur = true := (List.pairwise_cons.1 h).1
theorem can_tail {x : Mon} {r : List Mon} (h : Can (x :: r)) : Can r := fun y hy => h y (List.mem_cons_of_mem _ hy)
theorem zAt_low {x : Mon} {r : List Mon} {c : List UInt8} (h : Srt (x :: r)) (hc : bytesLess c x.cur = true) : zAt (x :: r) c = 0 := by
  refine zAt_no fun y hy => ?_
  rcases List.mem_cons.1 hy with rfl | hy
  · exact (ltS_ne hc).symm
  · exact (ltS_ne (ltS_trans hc (srt_head h y hy))).symm
theorem zAt_tail {x : Mon} {r : List Mon} (h : Srt (x :: r)) : zAt r x.cur = 0 := zAt_no fun y hy => (ltS_ne (srt_head h y hy)).symm
theorem val_ne {l : List UInt8} (hc : l = canon (val l)) (h : l ≠ []) : val l ≠ 0 := fun e => h (by rw [hc, e]; rfl)
theorem bag_ext : ∀ {xs ys : List Mon}, Srt xs → Srt ys → Can xs → Can ys → (∀ c, zAt xs c = zAt ys c) → xs = ys
  | [], [], _, _, _, _, _ => rfl
  | [], y :: s, _, _, _, h, he => by
    have h1 := he y.cur
    have h2 := h y (List.mem_cons_self ..)
    simp only [zAt, if_pos] at h1
    exact absurd h1.symm (val_ne h2.1 h2.2)
  | x :: r, [], _, _, h, _, he => by
    have h1 := he x.cur
    have h2 := h x (List.mem_cons_self ..)
    simp only [zAt, if_pos] at h1
    exact absurd h1 (val_ne h2.1 h2.2)
  | x :: r, y :: s, hx, hy, cx, cy, he => by
    have h1 := cx x (List.mem_cons_self ..)
    have h2 := cy y (List.mem_cons_self ..)
    have hc : x.cur = y.cur := by
      rcases ltS_tri x.cur y.cur with h | h | h
      · have e := he x.cur
        rw [zAt_low hy h] at e
        simp only [zAt, if_pos] at e
        exact absurd e (val_ne h1.1 h1.2)
      · exact h
      · have e := he y.cur
        rw [zAt_low hx h] at e
        simp only [zAt, if_pos] at e
        exact absurd e.symm (val_ne h2.1 h2.2)
    have hv : x.amt = y.amt := by
      have e := he x.cur
      simp only [zAt, if_pos] at e
      rw [if_pos hc.symm] at e
      rw [h1.1, h2.1, e]
    have hr : r = s := by
      refine bag_ext (srt_tail hx) (srt_tail hy) (can_tail cx) (can_tail cy) fun c => ?_
      by_cases g : x.cur = c
      · rw [← g, zAt_tail hx, hc, zAt_tail hy]
      · have e := he c
        simp only [zAt, if_neg g] at e
        rw [if_neg (by rw [← hc]; exact g)] at e
        exact e
    rw [mon_eq hc hv, hr]
/-! What the iterator over two bags yields. -/
abbrev Yl := List UInt8 × List UInt8 × List UInt8
def bothM (x : Mon) (f : List Mon → List Yl) : List Mon → List Yl
  | [] => (x.cur, x.amt, []) :: f []
  | y :: s => if x.cur = y.cur then (x.cur, x.amt, y.amt) :: f s else if bytesLess x.cur y.cur = true then (x.cur, x.amt, []) :: f (y :: s) else (y.cur, [], y.amt) :: bothM x f s
def bothL : List Mon → List Mon → List Yl
  | [], b => b.map (fun y => (y.cur, [], y.amt))
  | x :: r, b => bothM x (bothL r) b
theorem both_nil (x : Mon) (r : List Mon) : bothL (x :: r) [] = (x.cur, x.amt, []) :: bothL r [] := rfl
theorem both_eq {x y : Mon} (h : x.cur = y.cur) (r s : List Mon) : bothL (x :: r) (y :: s) = (x.cur, x.amt, y.amt) :: bothL r s := by
  show bothM x (bothL r) (y :: s) = _
  rw [bothM, if_pos h]
theorem both_lt {x y : Mon} (h : bytesLess x.cur y.cur = true) (r s : List Mon) : bothL (x :: r) (y :: s) = (x.cur, x.amt, []) :: bothL r (y :: s) := by
  show bothM x (bothL r) (y :: s) = _
  rw [bothM, if_neg (ltS_ne h), if_pos h]
theorem both_gt {x y : Mon} (h : bytesLess y.cur x.cur = true) (r s : List Mon) : bothL (x :: r) (y :: s) = (y.cur, [], y.amt) :: bothL (x :: r) s := by
  show bothM x (bothL r) (y :: s) = _
  rw [bothM, if_neg (ltS_ne h).symm, if_neg (by rw [ltS_asym h]; decide)]
  rfl
def keepL : List Yl → List Mon
  | [] => []
  | y :: r => if val y.2.1 + val y.2.2 = 0 then keepL r else ⟨y.1, canon (val y.2.1 + val y.2.2)⟩ :: keepL r
/-- the sum of two bags -/
def smL (a b : List Mon) : List Mon := keepL (bothL a b)
def zY : List Yl → List UInt8 → Int
  | [], _ => 0
  | y :: r, c => if y.1 = c then val y.2.1 + val y.2.2 else zY r c
def SrtY (ys : List Yl) : Prop := ys.Pairwise (fun x y => bytesLess x.1 y.1 = true)
structure BothOk (a b : List Mon) : Prop where
  srt : SrtY (bothL a b)
  key : ∀ y ∈ bothL a b, (∃ x ∈ a, x.cur = y.1) ∨ (∃ x ∈ b, x.cur = y.1)
  val : ∀ c, zY (bothL a b) c = zAt a c + zAt b c
theorem both_ok : ∀ a b : List Mon, Srt a → Srt b → BothOk a b
  | [], b, _, hb => by
    refine ⟨List.pairwise_map.2 hb, fun y hy => ?_, fun c => ?_⟩
    · obtain ⟨x, hx, rfl⟩ := List.mem_map.1 hy
      exact .inr ⟨x, hx, rfl⟩
    · show zY (b.map _) c = 0 + zAt b c
      rw [Int.zero_add]
      clear hb
      induction b with
      | nil => rfl
      | cons y s ih =>
        show (if y.cur = c then Num.val [] + Num.val y.amt else zY (s.map _) c) = if y.cur = c then Num.val y.amt else zAt s c
        rw [ih, val_nil, Int.zero_add]
  | x :: r, [], ha, hb => by
    have ih := both_ok r [] (srt_tail ha) hb
    rw [show BothOk (x :: r) [] = BothOk (x :: r) [] from rfl]
    refine ⟨?_, ?_, fun c => ?_⟩
    · rw [both_nil]
      refine List.pairwise_cons.2 ⟨fun y hy => ?_, ih.srt⟩
      rcases ih.key y hy with ⟨z, hz, e⟩ | ⟨z, hz, e⟩
      · rw [← e]; exact srt_head ha z hz
      · cases hz
    · rw [both_nil]
      intro y hy
      rcases List.mem_cons.1 hy with rfl | hy
      · exact .inl ⟨x, List.mem_cons_self .., rfl⟩
      · rcases ih.key y hy with ⟨z, hz, e⟩ | ⟨z, hz, e⟩
        · exact .inl ⟨z, List.mem_cons_of_mem _ hz, e⟩
        · cases hz
    · rw [both_nil]
      show (if x.cur = c then Num.val x.amt + Num.val [] else zY (bothL r []) c) = (if x.cur = c then Num.val x.amt else zAt r c) + 0
      rw [ih.val c, val_nil]
      split <;> simp [zAt]
  | x :: r, y :: s, ha, hb => by
    rcases ltS_tri x.cur y.cur with h | h | h
    · have ih := both_ok r (y :: s) (srt_tail ha) hb
      have e := both_lt h r s
      refine ⟨?_, ?_, fun c => ?_⟩
      · rw [e]
        refine List.pairwise_cons.2 ⟨fun u hu => ?_, ih.srt⟩
        rcases ih.key u hu with ⟨z, hz, e⟩ | ⟨z, hz, e⟩
        · rw [← e]; exact srt_head ha z hz
        · rw [← e]
          rcases List.mem_cons.1 hz with rfl | hz
          · exact h
          · exact ltS_trans h (srt_head hb z hz)
      · rw [e]
        intro u hu
        rcases List.mem_cons.1 hu with rfl | hu
        · exact .inl ⟨x, List.mem_cons_self .., rfl⟩
        · rcases ih.key u hu with ⟨z, hz, e⟩ | ⟨z, hz, e⟩
          · exact .inl ⟨z, List.mem_cons_of_mem _ hz, e⟩
          · exact .inr ⟨z, hz, e⟩
      · rw [e]
        show (if x.cur = c then Num.val x.amt + Num.val [] else zY (bothL r (y :: s)) c) = (if x.cur = c then Num.val x.amt else zAt r c) + zAt (y :: s) c
        rw [ih.val c, val_nil]
        by_cases g : x.cur = c
        · rw [if_pos g, if_pos g, ← g, zAt_low hb h]
        · rw [if_neg g, if_neg g]
    · have ih := both_ok r s (srt_tail ha) (srt_tail hb)
      have e := both_eq h r s
      refine ⟨?_, ?_, fun c => ?_⟩
      · rw [e]
        refine List.pairwise_cons.2 ⟨fun u hu => ?_, ih.srt⟩
        rcases ih.key u hu with ⟨z, hz, e⟩ | ⟨z, hz, e⟩
        · rw [← e]; exact srt_head ha z hz
        · rw [← e]; show bytesLess x.cur z.cur = true; rw [h]; exact srt_head hb z hz
      · rw [e]
        intro u hu
        rcases List.mem_cons.1 hu with rfl | hu
        · exact .inl ⟨x, List.mem_cons_self .., rfl⟩
        · rcases ih.key u hu with ⟨z, hz, e⟩ | ⟨z, hz, e⟩
          · exact .inl ⟨z, List.mem_cons_of_mem _ hz, e⟩
          · exact .inr ⟨z, List.mem_cons_of_mem _ hz, e⟩
      · rw [e]
        show (if x.cur = c then Num.val x.amt + Num.val y.amt else zY (bothL r s) c) = (if x.cur = c then Num.val x.amt else zAt r c) + (if y.cur = c then Num.val y.amt else zAt s c)
        rw [ih.val c, ← h]
        split <;> rfl
    · have ih := both_ok (x :: r) s ha (srt_tail hb)
      have e := both_gt h r s
      refine ⟨?_, ?_, fun c => ?_⟩
      · rw [e]
        refine List.pairwise_cons.2 ⟨fun u hu => ?_, ih.srt⟩
        rcases ih.key u hu with ⟨z, hz, e⟩ | ⟨z, hz, e⟩
        · rw [← e]
          rcases List.mem_cons.1 hz with rfl | hz
          · exact h
          · exact ltS_trans h (srt_head ha z hz)
        · rw [← e]; exact srt_head hb z hz
      · rw [e]
        intro u hu
        rcases List.mem_cons.1 hu with rfl | hu
        · exact .inr ⟨y, List.mem_cons_self .., rfl⟩
        · rcases ih.key u hu with ⟨z, hz, e⟩ | ⟨z, hz, e⟩
          · exact .inl ⟨z, hz, e⟩
          · exact .inr ⟨z, List.mem_cons_of_mem _ hz, e⟩
      · rw [e]
        show (if y.cur = c then Num.val [] + Num.val y.amt else zY (bothL (x :: r) s) c) = zAt (x :: r) c + (if y.cur = c then Num.val y.amt else zAt s c)
        rw [ih.val c, val_nil]
        by_cases g : y.cur = c
        · rw [if_pos g, if_pos g, ← g, zAt_low ha h]
        · rw [if_neg g, if_neg g]
theorem keep_key : ∀ {ys : List Yl} {x : Mon}, x ∈ keepL ys → ∃ y ∈ ys, y.1 = x.cur
  | y :: r, x, h => by
    unfold keepL at h
    split at h
    · obtain ⟨z, hz, e⟩ := keep_key h
      exact ⟨z, List.mem_cons_of_mem _ hz, e⟩
    · rcases List.mem_cons.1 h with rfl | h
      · exact ⟨y, List.mem_cons_self .., rfl⟩
      · obtain ⟨z, hz, e⟩ := keep_key h
        exact ⟨z, List.mem_cons_of_mem _ hz, e⟩
theorem keep_can : ∀ ys : List Yl, Can (keepL ys)
  | [] => fun x hx => by cases hx
  | y :: r => fun x hx => by
    unfold keepL at hx
    split at hx
    · exact keep_can r x hx
    · next h =>
      rcases List.mem_cons.1 hx with rfl | hx
      · exact ⟨by show canon _ = canon (Num.val (canon _)); rw [val_canon], fun e => h ((canon_eq_nil _).1 e)⟩
      · exact keep_can r x hx
theorem keep_srt : ∀ {ys : List Yl}, SrtY ys → Srt (keepL ys)
  | [], _ => List.Pairwise.nil
  | y :: r, h => by
    obtain ⟨h1, h2⟩ := List.pairwise_cons.1 h
    unfold keepL
    split
    · exact keep_srt h2
    · refine List.pairwise_cons.2 ⟨fun x hx => ?_, keep_srt h2⟩
      obtain ⟨z, hz, e⟩ := keep_key hx
      show bytesLess y.1 x.cur = true
      rw [← e]; exact h1 z hz
theorem keep_val : ∀ {ys : List Yl}, SrtY ys → ∀ c, zAt (keepL ys) c = zY ys c
  | [], _, _ => rfl
  | y :: r, h, c => by
    obtain ⟨h1, h2⟩ := List.pairwise_cons.1 h
    have ih := keep_val h2 c
    show zAt (if Num.val y.2.1 + Num.val y.2.2 = 0 then keepL r else ⟨y.1, canon (Num.val y.2.1 + Num.val y.2.2)⟩ :: keepL r) c = if y.1 = c then Num.val y.2.1 + Num.val y.2.2 else zY r c
    by_cases g : Num.val y.2.1 + Num.val y.2.2 = 0
    · rw [if_pos g]
      by_cases e : y.1 = c
      · rw [if_pos e, g]
        refine zAt_no fun x hx => ?_
        obtain ⟨z, hz, e2⟩ := keep_key hx
        rw [← e, ← e2]
        exact (ltS_ne (h1 z hz)).symm
      · rw [if_neg e]; exact ih
    · rw [if_neg g]
      show (if y.1 = c then Num.val (canon _) else zAt (keepL r) c) = _
      rw [val_canon, ih]
theorem sum_srt {a b : List Mon} (ha : Srt a) (hb : Srt b) : Srt (smL a b) := keep_srt (both_ok a b ha hb).srt
theorem sum_can (a b : List Mon) : Can (smL a b) := keep_can _
theorem sum_val {a b : List Mon} (ha : Srt a) (hb : Srt b) (c : List UInt8) : zAt (smL a b) c = zAt a c + zAt b c := (keep_val (both_ok a b ha hb).srt c).trans ((both_ok a b ha hb).val c)
theorem sum_key {a b : List Mon} (ha : Srt a) (hb : Srt b) {x : Mon} (hx : x ∈ smL a b) : (∃ y ∈ a, y.cur = x.cur) ∨ (∃ y ∈ b, y.cur = x.cur) := by
  obtain ⟨y, hy, e⟩ := keep_key hx
  rw [← e]; exact (both_ok a b ha hb).key y hy
/-! One amount added, the reference's way. -/
def keepN (x : Mon) (l : List Mon) : List Mon := if x.amt = [] then l else x :: l
def withS (m : Mon) : Bool → List Mon → List Mon
  | d, [] => if d = true then [] else [m]
  | d, x :: r => if d = false ∧ bytesLess x.cur m.cur = false then (if x.cur = m.cur then keepN ⟨x.cur, canon (val x.amt + val m.amt)⟩ (withS m true r) else m :: keepN x (withS m true r)) else keepN x (withS m d r)
def withG (xs : List Mon) (m : Mon) : List Mon := withS m (m.amt == []) xs
theorem with_done (m : Mon) : ∀ {xs : List Mon}, Can xs → withS m true xs = xs
  | [], _ => rfl
  | x :: r, h => by
    unfold withS
    rw [if_neg (fun h => by cases h.1), with_done m (can_tail h)]
    unfold keepN
    rw [if_neg (h x (List.mem_cons_self ..)).2]
structure WithOk (xs : List Mon) (m : Mon) (W : List Mon) : Prop where
  srt : Srt W
  can : Can W
  key : ∀ y ∈ W, y.cur = m.cur ∨ ∃ x ∈ xs, x.cur = y.cur
  val : ∀ c, zAt W c = zAt xs c + if m.cur = c then val m.amt else 0
  len : W.length ≤ xs.length + 1
theorem can_cons {x : Mon} {r : List Mon} (h1 : x.amt = canon (val x.amt) ∧ x.amt ≠ []) (h : Can r) : Can (x :: r) := fun y hy => by
  rcases List.mem_cons.1 hy with rfl | hy
  · exact h1
  · exact h y hy
theorem with_not {m : Mon} (hm : m.amt = canon (val m.amt)) (h0 : m.amt ≠ []) : ∀ {xs : List Mon}, Srt xs → Can xs → WithOk xs m (withS m false xs)
  | [], _, _ => by
    refine ⟨List.pairwise_singleton _ _, can_cons ⟨hm, h0⟩ (fun x hx => by cases hx), fun y hy => ?_, fun c => ?_, Nat.le_refl _⟩
    · rcases List.mem_cons.1 hy with rfl | hy
      · exact .inl rfl
      · cases hy
    · show (if m.cur = c then Num.val m.amt else 0) = 0 + _
      rw [Int.zero_add]
  | x :: r, hs, hc => by
    have hx := hc x (List.mem_cons_self ..)
    have hr := can_tail hc
    rcases ltS_tri x.cur m.cur with h | h | h
    · have ih := with_not hm h0 (srt_tail hs) hr
      have e : withS m false (x :: r) = x :: withS m false r := by
        rw [withS, if_neg (fun g => by rw [h] at g; cases g.2)]
        unfold keepN
        rw [if_neg hx.2]
      rw [e]
      refine ⟨List.pairwise_cons.2 ⟨fun y hy => ?_, ih.srt⟩, can_cons hx ih.can, fun y hy => ?_, fun c => ?_, by simpa using ih.len⟩
      · rcases ih.key y hy with e | ⟨z, hz, e⟩
        · rw [e]; exact h
        · rw [← e]; exact srt_head hs z hz
      · rcases List.mem_cons.1 hy with rfl | hy
        · exact .inr ⟨y, List.mem_cons_self .., rfl⟩
        · rcases ih.key y hy with e | ⟨z, hz, e⟩
          · exact .inl e
          · exact .inr ⟨z, List.mem_cons_of_mem _ hz, e⟩
      · show (if x.cur = c then Num.val x.amt else zAt (withS m false r) c) = (if x.cur = c then Num.val x.amt else zAt r c) + _
        rw [ih.val c]
        by_cases g : x.cur = c
        · rw [if_pos g, if_pos g, if_neg (fun e => ltS_ne h (g.trans e.symm))]; simp
        · rw [if_neg g, if_neg g]
    · have e : withS m false (x :: r) = keepN ⟨x.cur, canon (Num.val x.amt + Num.val m.amt)⟩ r := by
        rw [withS, if_pos ⟨rfl, by rw [h]; exact ltS_irr _⟩, if_pos h, with_done m hr]
      rw [e]
      unfold keepN
      by_cases z : Num.val x.amt + Num.val m.amt = 0
      · rw [if_pos ((canon_eq_nil _).2 z)]
        refine ⟨srt_tail hs, hr, fun y hy => .inr ⟨y, List.mem_cons_of_mem _ hy, rfl⟩, fun c => ?_, by simp; omega⟩
        show zAt r c = (if x.cur = c then Num.val x.amt else zAt r c) + _
        by_cases g : x.cur = c
        · rw [if_pos g, if_pos (h.symm.trans g), z, ← g]; exact zAt_tail hs
        · rw [if_neg g, if_neg (fun e => g (h.trans e)), Int.add_zero]
      · have z2 : canon (Num.val x.amt + Num.val m.amt) ≠ [] := fun e => z ((canon_eq_nil _).1 e)
        rw [if_neg z2]
        refine ⟨List.pairwise_cons.2 ⟨fun y hy => srt_head hs y hy, srt_tail hs⟩, can_cons ⟨by show canon _ = canon (Num.val (canon _)); rw [val_canon], z2⟩ hr, fun y hy => ?_, fun c => ?_, by simp⟩
        · rcases List.mem_cons.1 hy with rfl | hy
          · exact .inl h
          · exact .inr ⟨y, List.mem_cons_of_mem _ hy, rfl⟩
        · show (if x.cur = c then Num.val (canon _) else zAt r c) = (if x.cur = c then Num.val x.amt else zAt r c) + _
          rw [val_canon]
          by_cases g : x.cur = c
          · rw [if_pos g, if_pos g, if_pos (h.symm.trans g)]
          · rw [if_neg g, if_neg g, if_neg (fun e => g (h.trans e)), Int.add_zero]
    · have e : withS m false (x :: r) = m :: x :: r := by
        rw [withS, if_pos ⟨rfl, ltS_asym h⟩, if_neg (ltS_ne h).symm, with_done m hr]
        unfold keepN
        rw [if_neg hx.2]
      rw [e]
      refine ⟨List.pairwise_cons.2 ⟨fun y hy => ?_, hs⟩, can_cons ⟨hm, h0⟩ hc, fun y hy => ?_, fun c => ?_, by simp⟩
      · rcases List.mem_cons.1 hy with rfl | hy
        · exact h
        · exact ltS_trans h (srt_head hs y hy)
      · rcases List.mem_cons.1 hy with rfl | hy
        · exact .inl rfl
        · exact .inr ⟨y, hy, rfl⟩
      · show (if m.cur = c then Num.val m.amt else zAt (x :: r) c) = _
        by_cases g : m.cur = c
        · rw [if_pos g, if_pos g, ← g, zAt_low hs h, Int.zero_add]
        · rw [if_neg g, if_neg g, Int.add_zero]
theorem with_ok {m : Mon} (hm : m.amt = canon (val m.amt)) {xs : List Mon} (hs : Srt xs) (hc : Can xs) : WithOk xs m (withG xs m) := by
  unfold withG
  by_cases h0 : m.amt = []
  · have e : (m.amt == []) = true := by rw [beq_iff_eq]; exact h0
    rw [e, with_done m hc]
    exact ⟨hs, hc, fun y hy => .inr ⟨y, hy, rfl⟩, fun c => by rw [h0, val_nil]; split <;> simp, by omega⟩
  · have e : (m.amt == []) = false := by rw [beq_eq_false_iff_ne]; exact h0
    rw [e]
    exact with_not hm h0 hs hc
/-- amounts added one behind the other -/
theorem fold_ok : ∀ (b : List Mon) {a : List Mon}, Srt a → Can a → (∀ x ∈ b, x.amt = canon (val x.amt)) → Srt (b.foldl withG a) ∧ Can (b.foldl withG a) ∧ (b.foldl withG a).length ≤ a.length + b.length
  | [], a, h1, h2, _ => ⟨h1, h2, by simp⟩
  | x :: s, a, h1, h2, h => by
    have w := with_ok (h x (List.mem_cons_self ..)) h1 h2
    have ih := fold_ok s w.srt w.can (fun y hy => h y (List.mem_cons_of_mem _ hy))
    have hl := w.len
    refine ⟨ih.1, ih.2.1, ?_⟩
    have := ih.2.2
    simp only [List.foldl_cons, List.length_cons]
    omega
theorem fold_val : ∀ (b : List Mon) {a : List Mon}, Srt a → Can a → Srt b → Can b → ∀ c, zAt (b.foldl withG a) c = zAt a c + zAt b c
  | [], a, _, _, _, _, c => by simp [zAt]
  | x :: s, a, h1, h2, h3, h4, c => by
    have w := with_ok (h4 x (List.mem_cons_self ..)).1 h1 h2
    rw [List.foldl_cons, fold_val s w.srt w.can (srt_tail h3) (can_tail h4) c, w.val c, Int.add_assoc]
    congr 1
    show _ = if x.cur = c then Num.val x.amt else zAt s c
    by_cases g : x.cur = c
    · rw [if_pos g, if_pos g, ← g, zAt_tail h3, Int.add_zero]
    · rw [if_neg g, if_neg g, Int.zero_add]
theorem fold_sum {a b : List Mon} (h1 : Srt a) (h2 : Can a) (h3 : Srt b) (h4 : Can b) : b.foldl withG a = smL a b := by
  obtain ⟨f1, f2, -⟩ := fold_ok b h1 h2 (fun x hx => (h4 x hx).1)
  exact bag_ext f1 (sum_srt h1 h3) f2 (sum_can a b) fun c => by rw [fold_val b h1 h2 h3 h4, sum_val h1 h3]
theorem srt_one (m : Mon) : Srt [m] := List.pairwise_singleton _ _
theorem zAt_one (m : Mon) (c : List UInt8) : zAt [m] c = if m.cur = c then val m.amt else 0 := rfl
theorem with_sum {a : List Mon} {m : Mon} (h1 : Srt a) (h2 : Can a) (hm : m.amt = canon (val m.amt)) : withG a m = smL a [m] := by
  have w := with_ok hm h1 h2
  exact bag_ext w.srt (sum_srt h1 (srt_one m)) w.can (sum_can a [m]) fun c => by rw [w.val, sum_val h1 (srt_one m), zAt_one]
/-! The opposite amounts; a bag's check. -/
def negM (x : Mon) : Mon := ⟨x.cur, canon (- val x.amt)⟩
theorem neg_srt {a : List Mon} (h : Srt a) : Srt (a.map negM) := List.pairwise_map.2 h
theorem neg_can {a : List Mon} (h : Can a) : Can (a.map negM) := fun y hy => by
  obtain ⟨x, hx, rfl⟩ := List.mem_map.1 hy
  refine ⟨by show canon _ = canon (Num.val (canon _)); rw [val_canon], fun e => ?_⟩
  have h1 := h x hx
  have := (canon_eq_nil _).1 e
  exact val_ne h1.1 h1.2 (by omega)
theorem neg_val : ∀ (a : List Mon) (c : List UInt8), zAt (a.map negM) c = - zAt a c
  | [], _ => rfl
  | x :: r, c => by
    show (if x.cur = c then Num.val (canon _) else zAt (r.map negM) c) = - (if x.cur = c then Num.val x.amt else zAt r c)
    rw [neg_val r c, val_canon]
    split <;> rfl
/-- the amount in a currency, as text -/
def amtL : List Mon → List UInt8 → List UInt8
  | [], _ => []
  | x :: r, c => if x.cur = c then x.amt else amtL r c
theorem amt_canon : ∀ {a : List Mon} {c : List UInt8}, (∀ x ∈ a, x.amt = canon (val x.amt)) → amtL a c = canon (zAt a c)
  | [], _, _ => rfl
  | x :: r, c, h => by
    show (if x.cur = c then x.amt else amtL r c) = canon (if x.cur = c then Num.val x.amt else zAt r c)
    split
    · exact h x (List.mem_cons_self ..)
    · exact amt_canon fun y hy => h y (List.mem_cons_of_mem _ hy)
theorem amt_val : ∀ (a : List Mon) (c : List UInt8), val (amtL a c) = zAt a c
  | [], _ => rfl
  | x :: r, c => by
    show Num.val (if x.cur = c then x.amt else amtL r c) = if x.cur = c then Num.val x.amt else zAt r c
    split
    · rfl
    · exact amt_val r c
end Go.Proofs.YtdjjlbfleibhjaaGreatDoor
namespace Go.Proofs.YtdjjlbfleibhjaaGreatDoor
open Num Go.Op
structure Bag (xs : List Mon) : Prop where
  srt : Srt xs
  can : Can xs
theorem bag_nil : Bag [] := ⟨List.Pairwise.nil, fun x hx => by cases hx⟩
theorem bag_sum {a b : List Mon} (ha : Bag a) (hb : Bag b) : Bag (smL a b) := ⟨sum_srt ha.srt hb.srt, sum_can a b⟩
theorem bag_neg {a : List Mon} (ha : Bag a) : Bag (a.map negM) := ⟨neg_srt ha.srt, neg_can ha.can⟩
theorem bag_eq {a b : List Mon} (ha : Bag a) (hb : Bag b) (h : ∀ c, zAt a c = zAt b c) : a = b := bag_ext ha.srt hb.srt ha.can hb.can h
theorem sum_comm {a b : List Mon} (ha : Bag a) (hb : Bag b) : smL a b = smL b a :=
  bag_eq (bag_sum ha hb) (bag_sum hb ha) fun c => by rw [sum_val ha.srt hb.srt, sum_val hb.srt ha.srt, Int.add_comm]
theorem sum_assoc {a b c : List Mon} (ha : Bag a) (hb : Bag b) (hc : Bag c) : smL (smL a b) c = smL a (smL b c) :=
  bag_eq (bag_sum (bag_sum ha hb) hc) (bag_sum ha (bag_sum hb hc)) fun k => by
    rw [sum_val (bag_sum ha hb).srt hc.srt, sum_val ha.srt hb.srt, sum_val ha.srt (bag_sum hb hc).srt, sum_val hb.srt hc.srt, Int.add_assoc]
theorem sum_nil {a : List Mon} (ha : Bag a) : smL a [] = a :=
  bag_eq (bag_sum ha bag_nil) ha fun c => by rw [sum_val ha.srt bag_nil.srt]; exact Int.add_zero _
theorem sum_neg {a : List Mon} (ha : Bag a) : smL a (a.map negM) = [] :=
  bag_eq (bag_sum ha (bag_neg ha)) bag_nil fun c => by rw [sum_val ha.srt (bag_neg ha).srt, neg_val]; exact Int.add_right_neg _
theorem both_len : ∀ a b : List Mon, (bothL a b).length ≤ a.length + b.length
  | [], b => by simp [bothL]
  | x :: r, b => by
    show (bothM x (bothL r) b).length ≤ _
    induction b with
    | nil =>
      have := both_len r []
      simp [bothM] at this ⊢; omega
    | cons y s ih =>
      unfold bothM
      split
      · have := both_len r s; simp; omega
      · split
        · have := both_len r (y :: s); simp at this ⊢; omega
        · simp at ih ⊢; omega
theorem keep_len : ∀ ys : List Yl, (keepL ys).length ≤ ys.length
  | [] => Nat.le_refl _
  | y :: r => by
    have := keep_len r
    unfold keepL
    split <;> simp <;> omega
theorem smL_len (a b : List Mon) : (smL a b).length ≤ a.length + b.length := Nat.le_trans (keep_len _) (both_len a b)
/-- the sizes of the amounts -/
def AmtLt (k : Nat) (xs : List Mon) : Prop := ∀ x ∈ xs, (val x.amt).natAbs < 10 ^ k
theorem zAt_lt {k : Nat} : ∀ {xs : List Mon}, AmtLt k xs → ∀ c, (zAt xs c).natAbs < 10 ^ k
  | [], _, _ => Nat.pow_pos (by decide)
  | x :: r, h, c => by
    show (if x.cur = c then Num.val x.amt else zAt r c).natAbs < _
    split
    · exact h x (List.mem_cons_self ..)
    · exact zAt_lt (fun y hy => h y (List.mem_cons_of_mem _ hy)) c
theorem zAt_mem : ∀ {xs : List Mon}, Srt xs → ∀ x ∈ xs, zAt xs x.cur = val x.amt
  | x :: r, h, y, hy => by
    show (if x.cur = y.cur then Num.val x.amt else zAt r y.cur) = _
    rcases List.mem_cons.1 hy with rfl | hy
    · rw [if_pos rfl]
    · rw [if_neg (ltS_ne (srt_head h y hy))]; exact zAt_mem (srt_tail h) y hy
theorem sum_lt {k : Nat} {a b : List Mon} (ha : Srt a) (hb : Srt b) (h : AmtLt k a) (h' : AmtLt k b) : AmtLt (k + 1) (smL a b) := fun x hx => by
  have e := zAt_mem (sum_srt ha hb) x hx
  rw [sum_val ha hb] at e
  have h1 := zAt_lt h x.cur
  have h2 := zAt_lt h' x.cur
  rw [← e, Nat.pow_succ]
  omega
/-! Bags with the same amounts in their currencies. -/
theorem same_amts {a b : List Mon} (ha : Bag a) (hb : Bag b) (h : ∀ x ∈ a ++ b, amtL a x.cur = amtL b x.cur) : a = b := by
  refine bag_eq ha hb fun c => ?_
  by_cases g : ∃ x ∈ a ++ b, x.cur = c
  · obtain ⟨x, hx, rfl⟩ := g
    have := congrArg Num.val (h x hx)
    rwa [amt_val, amt_val] at this
  · rw [zAt_no fun x hx e => g ⟨x, List.mem_append_left _ hx, e⟩, zAt_no fun x hx e => g ⟨x, List.mem_append_right _ hx, e⟩]
theorem amt_sum {a b : List Mon} (ha : Bag a) (hb : Bag b) (c : List UInt8) : amtL (smL a b) c = canon (val (amtL a c) + val (amtL b c)) := by
  rw [amt_canon fun x hx => (sum_can a b x hx).1, sum_val ha.srt hb.srt, amt_val, amt_val]
/-! Amounts put one behind the other. -/
theorem one_srt (m : Mon) : Srt [m] := List.pairwise_singleton _ _
def putL (a : List Mon) (m : Mon) : List Mon := smL a [m]
theorem put_bag {a : List Mon} (h : Bag a) (m : Mon) : Bag (putL a m) := ⟨sum_srt h.srt (one_srt m), sum_can _ _⟩
theorem put_val {a : List Mon} (h : Bag a) (m : Mon) (c : List UInt8) : zAt (putL a m) c = zAt a c + if m.cur = c then val m.amt else 0 := sum_val h.srt (one_srt m) c
def zSum : List Mon → List UInt8 → Int
  | [], _ => 0
  | m :: r, c => (if m.cur = c then val m.amt else 0) + zSum r c
theorem zSum_app : ∀ (l k : List Mon) (c : List UInt8), zSum (l ++ k) c = zSum l c + zSum k c
  | [], k, c => (Int.zero_add _).symm
  | m :: r, k, c => by
    show _ + zSum (r ++ k) c = _ + zSum r c + _
    rw [zSum_app r k c, Int.add_assoc]
theorem zSum_rev : ∀ (l : List Mon) (c : List UInt8), zSum l.reverse c = zSum l c
  | [], _ => rfl
  | m :: r, c => by
    rw [List.reverse_cons, zSum_app, zSum_rev r c]
    show _ + ((if m.cur = c then Num.val m.amt else 0) + 0) = (if m.cur = c then Num.val m.amt else 0) + _
    omega
theorem puts_bag : ∀ (l : List Mon) {a : List Mon}, Bag a → Bag (l.foldl putL a)
  | [], _, h => h
  | m :: r, _, h => puts_bag r (put_bag h m)
theorem puts_val : ∀ (l : List Mon) {a : List Mon}, Bag a → ∀ c, zAt (l.foldl putL a) c = zAt a c + zSum l c
  | [], _, _, _ => (Int.add_zero _).symm
  | m :: r, a, h, c => by
    rw [List.foldl_cons, puts_val r (put_bag h m) c, put_val h]
    show _ = _ + (_ + zSum r c)
    rw [Int.add_assoc]
/-- the elements, the last ones first, from a place on, round -/
def pmL (l : List Mon) (b : Nat) : List Mon := (l.take b).reverse ++ (l.drop b).reverse
theorem pm_len (l : List Mon) (b : Nat) : (pmL l b).length = l.length := by unfold pmL; simp; omega
theorem pm_sum (l : List Mon) (b : Nat) (c : List UInt8) : zSum (pmL l b) c = zSum l c := by
  unfold pmL
  rw [zSum_app, zSum_rev, zSum_rev, ← zSum_app, List.take_append_drop]
theorem pm_at {l : List Mon} {n b i j : Nat} (hn : l.length = n) (hb : b < n) (hi : i < n) (hj : j = (n - 1 - i + b) % n) : (pmL l b)[i]? = l[j]? := by
  subst hn
  unfold pmL
  by_cases h : i < b
  · have hj2 : j = b - 1 - i := by
      rw [hj, show l.length - 1 - i + b = l.length + (b - 1 - i) by omega, Nat.add_mod_left, Nat.mod_eq_of_lt (by omega)]
    rw [List.getElem?_append_left (by simp; omega), List.getElem?_reverse (by simp; omega), List.getElem?_take, if_pos (by simp; omega), List.length_take, hj2]
    congr 1; omega
  · have hj2 : j = l.length - 1 - i + b := by rw [hj, Nat.mod_eq_of_lt (by omega)]
    rw [List.getElem?_append_right (by simp; omega), List.getElem?_reverse (by simp; omega), List.getElem?_drop, hj2]
    congr 1; simp; omega
theorem puts_pm (l : List Mon) (b : Nat) : (pmL l b).foldl putL [] = l.foldl putL [] :=
  bag_eq (puts_bag _ bag_nil) (puts_bag _ bag_nil) fun c => by rw [puts_val _ bag_nil, puts_val _ bag_nil, pm_sum]
/-- sums of bags with one amount -/
def adM (a : List Mon) (m : Mon) : List Mon := smL a (putL [] m)
theorem add_put {a : List Mon} (h : Bag a) (m : Mon) : adM a m = putL a m :=
  bag_eq (bag_sum h (put_bag bag_nil m)) (put_bag h m) fun c => by
    unfold adM
    rw [sum_val h.srt (put_bag bag_nil m).srt, put_val bag_nil, put_val h]
    show _ + (0 + _) = _
    rw [Int.zero_add]
theorem foldl_snoc {α β : Type} (f : β → α → β) {l : List α} {k : Nat} {x : α} (h : l[k]? = some x) (a : β) : (l.take (k + 1)).foldl f a = f ((l.take k).foldl f a) x := by
  obtain ⟨hk, rfl⟩ := List.getElem?_eq_some_iff.1 h
  rw [List.take_succ_eq_append_getElem hk, List.foldl_append]; rfl
theorem put_lt {k : Nat} {a : List Mon} (h : Bag a) (h1 : AmtLt k a) {m : Mon} (hm : (val m.amt).natAbs < 10 ^ k) : AmtLt (k + 1) (putL a m) :=
  sum_lt h.srt (one_srt m) h1 (fun x hx => by rw [List.mem_singleton.1 hx]; exact hm)
theorem can_len {k : Nat} {xs : List Mon} (h : Can xs) (h2 : AmtLt k xs) : ∀ x ∈ xs, x.amt.length ≤ k + 1 := fun x hx => by
  rw [(h x hx).1]; exact canon_len_le _ _ (h2 x hx)
end Go.Proofs.YtdjjlbfleibhjaaGreatDoor
namespace Go.Proofs
open Go.Shelf
def Tryz.cloneMon_ren : Go.Shelf.Ren := ⟨fun | 41 => 97 | n => n, fun | 22 => 35 | 23 => 25 | 4 => 4 | n => n, fun | n => n⟩
theorem Tryz.cloneMon : Go.Proofs.SlLaysE0.n41 Tryz.prog Tryz.cloneMon_ren := {
  mixed := by kernel_rfl
  f41 := ⟨Tryz.f97.name, by decide, Tryz.func97.trans (congrArg some (by kernel_rfl))⟩
  t4 := Tryz.underlying4
  a4 := Tryz.isAgg4
  z4 := Tryz.sizeOf4
  v4 := Tryz.zeroValue4
  t22 := Tryz.underlying35
  a22 := Tryz.isAgg35
  z22 := Tryz.sizeOf35
  v22 := Tryz.zeroValue35 }
end Go.Proofs
namespace Go.Proofs.YtdjjlbfleibhjaaGreatDoor
open Go.RowKit Num
/-- a block whose first cells are these -/
def CRow (w : World) (g : Nat) (ty : TypeId) (cs : List Value) : Prop := ∃ cur : Array Value, w.heap[g]? = some (.cells cur ty (0, 0)) ∧ cur.toList.take cs.length = cs ∧ cs.length ≤ cur.size
section
variable {w w' : World} {g b i : Nat} {ty : TypeId} {cs : List Value} {u v : Value}
theorem CRow.lt (h : CRow w g ty cs) : g < w.heap.size := by obtain ⟨cur, h, -⟩ := h; exact (Array.getElem?_eq_some_iff.1 h).1
theorem CRow.below (h : CRow w g ty cs) (hb : Below w.heap.size w w') : CRow w' g ty cs := by
  have hl := h.lt
  obtain ⟨cur, h, h2⟩ := h
  exact ⟨cur, (hb.block g hl).trans h, h2⟩
theorem CRow.far (h : CRow w g ty cs) (hn : g ≠ b) : CRow (w.setCell ⟨b, i, none⟩ u) g ty cs := by
  obtain ⟨cur, h, h2⟩ := h
  exact ⟨cur, (Below.heap_setCell w ⟨b, i, none⟩ u g hn).trans h, h2⟩
theorem CRow.cell (h : CRow w g ty cs) (hx : cs[i]? = some v) : w.cell? ⟨g, i, none⟩ = some v := by
  obtain ⟨cur, hh, ht, hs⟩ := h
  have hi := (List.getElem?_eq_some_iff.1 hx).1
  rw [blk_cell hh, ← hx, ← ht, List.getElem?_take, if_pos hi, Array.getElem?_toList]
theorem CRow.free (h : CRow w g ty cs) (j : Nat) : w.frozen? ⟨g, j, none⟩ = false := by
  obtain ⟨cur, hh, -⟩ := h
  exact blk_frozen hh j
theorem CRow.set (h : CRow w g ty cs) (i : Nat) (u : Value) : CRow (w.setCell ⟨g, i, none⟩ u) g ty (cs.set i u) := by
  obtain ⟨cur, hh, ht, hs⟩ := h
  refine ⟨cur.setIfInBounds i u, ?_, ?_, by simpa using hs⟩
  · obtain ⟨hlt, hk⟩ := Array.getElem?_eq_some_iff.1 hh
    show (w.heap.modify g _)[g]? = _
    rw [Array.getElem?_eq_getElem (by rw [Array.size_modify]; exact hlt), Array.getElem_modify_self, hk]
    simp
  · rw [List.length_set, Array.toList_setIfInBounds, List.take_set, ht]
end
theorem own_crow {w : World} {base n c sz : Nat} {ty : TypeId} {A : Option Addr} {cs : List Value} (h : w.ownsRow base ty sz (.slice A n c) n cs) (hn : cs.length = n * sz) (h0 : 0 < n) : ∃ g, A = some ⟨g, 0, none⟩ ∧ base ≤ g ∧ CRow w g ty cs := by
  rcases h.2 with ⟨hv, h1⟩ | ⟨g, cap, cur, hv, hb, hh, hcap, _, hsz, htk⟩
  · omega
  · injection hv with h1 _ h3
    subst h1 h3
    refine ⟨g, rfl, hb, cur, hh, by rw [hn]; exact htk, ?_⟩
    rw [hn, hsz]; exact Nat.mul_le_mul_right sz hcap
def MonAt (w : World) (A : Option Addr) (ts : List Mon) : Prop := ∀ i t, ts[i]? = some t → ∃ b o, A = some ⟨b, o, none⟩ ∧ b < w.heap.size ∧ w.cell? ⟨b, o + i * 2, none⟩ = some (.string ⟨t.cur.toArray⟩) ∧ w.cell? ⟨b, o + i * 2 + 1, none⟩ = some (.string ⟨t.amt.toArray⟩)
theorem MonAt.below {w w' : World} {A : Option Addr} {ts : List Mon} (h : MonAt w A ts) (hb : Below w.heap.size w w') : MonAt w' A ts := fun i t ht => by
  obtain ⟨b, o, h0, h1, h2, h3⟩ := h i t ht
  exact ⟨b, o, h0, Nat.lt_of_lt_of_le h1 hb.size, (hb.cell (p := ⟨b, o + i * 2, none⟩) h1).trans h2, (hb.cell (p := ⟨b, o + i * 2 + 1, none⟩) h1).trans h3⟩
def rowsM (xs : List Mon) : List Value := xs.flatMap (fun t => [.string ⟨t.cur.toArray⟩, .string ⟨t.amt.toArray⟩])
theorem rowsM_cons (t : Mon) (xs : List Mon) : rowsM (t :: xs) = .string ⟨t.cur.toArray⟩ :: .string ⟨t.amt.toArray⟩ :: rowsM xs := rfl
theorem rowsM_len : ∀ xs : List Mon, (rowsM xs).length = xs.length * 2
  | [] => rfl
  | x :: xs => by rw [rowsM_cons]; simp only [List.length_cons]; rw [rowsM_len xs]; omega
theorem rowsM_app (xs ys : List Mon) : rowsM (xs ++ ys) = rowsM xs ++ rowsM ys := List.flatMap_append
theorem rowsM_one (xs : List Mon) : ∀ u ∈ rowsM xs, u.oneCell' = true := by
  intro u hu
  obtain ⟨x, -, hx⟩ := List.mem_flatMap.1 hu
  simp only [List.mem_cons, List.not_mem_nil, or_false] at hx
  rcases hx with rfl | rfl <;> rfl
theorem rowsM_at : ∀ {xs : List Mon} {i : Nat} {t : Mon}, xs[i]? = some t → (rowsM xs)[i * 2]? = some (.string ⟨t.cur.toArray⟩) ∧ (rowsM xs)[i * 2 + 1]? = some (.string ⟨t.amt.toArray⟩)
  | [], i, x, h => by simp at h
  | y :: xs, 0, x, h => by
    have : y = x := by simpa using h
    subst this; exact ⟨rfl, rfl⟩
  | y :: xs, i + 1, x, h => by
    have hh := rowsM_at (xs := xs) (i := i) (t := x) (by simpa using h)
    rw [rowsM_cons, show (i + 1) * 2 = i * 2 + 1 + 1 by omega]
    simpa [Nat.add_right_comm, Nat.add_assoc] using hh
theorem rowsM_get : ∀ {xs : List Mon} {j : Nat} {u : Value}, (rowsM xs)[j]? = some u → ∃ t, xs[j / 2]? = some t ∧ u = if j % 2 = 0 then .string ⟨t.cur.toArray⟩ else .string ⟨t.amt.toArray⟩
  | [], j, u, h => by simp [rowsM] at h
  | y :: xs, 0, u, h => by
    rw [rowsM_cons] at h
    exact ⟨y, rfl, by simpa using h.symm⟩
  | y :: xs, 1, u, h => by
    rw [rowsM_cons] at h
    exact ⟨y, rfl, by simpa using h.symm⟩
  | y :: xs, j + 2, u, h => by
    rw [rowsM_cons] at h
    obtain ⟨x, h1, h2⟩ := rowsM_get (xs := xs) (j := j) (by simpa using h)
    refine ⟨x, ?_, ?_⟩
    · rw [show (j + 2) / 2 = j / 2 + 1 by omega]; simpa using h1
    · rw [show (j + 2) % 2 = j % 2 by omega]; exact h2
theorem crow_mon {w : World} {g : Nat} {ty : TypeId} {xs : List Mon} (h : CRow w g ty (rowsM xs)) : MonAt w (some ⟨g, 0, none⟩) xs := fun i t ht => by
  obtain ⟨h0, h1⟩ := rowsM_at ht
  exact ⟨g, 0, rfl, h.lt, by rw [Nat.zero_add]; exact h.cell h0, by rw [Nat.zero_add]; exact h.cell h1⟩
theorem info_mon : (Tryz.prog.info? 25).map (fun i => (i.zero, i.size, i.bytes)) = some (some (.agg #[.string ⟨#[]⟩, .string ⟨#[]⟩]), 2, 32) := by kernel_rfl
theorem eqf_step {P : Program} {w : World} {d : Nat} {xs ys : Array Value} {f : Field} {fs : List Field} {a b : Value} {r B : Bool} (hn : f.name ≠ "_") (h1 : (part f.type xs f.offset).run P w = .ok a w) (h2 : (part f.type ys f.offset).run P w = .ok b w) (h3 : (Op.equalIn d f.type a b).run P w = .ok r w) (h4 : (Op.eqFields d xs ys fs).run P w = .ok B w) :
    (Op.eqFields d xs ys (f :: fs)).run P w = .ok (r && B) w := by
  unfold Op.eqFields
  rw [if_pos hn]
  simp only [Sem.run_bind, h1, h2, h3, Result.andThen_ok]
  cases r
  · simp
  · simp [h4]
theorem eqf_nil {P : Program} {w : World} {d : Nat} {xs ys : Array Value} : (Op.eqFields d xs ys []).run P w = .ok true w := by unfold Op.eqFields; simp
def sameM (x y : Mon) : Bool := (x.cur == y.cur) && ((x.amt == y.amt) && true)
set_option maxRecDepth 100000 in
theorem eqM1 (x y : Mon) (w : World) : (Op.equalIn 10000 25 (.agg #[.string ⟨x.cur.toArray⟩, .string ⟨x.amt.toArray⟩]) (.agg #[.string ⟨y.cur.toArray⟩, .string ⟨y.amt.toArray⟩])).run Tryz.prog w = .ok (sameM x y) w := by
  have hS : Tryz.prog.underlying 25 = some (.struct (Tryz.prog.fieldsOf 25)) := by kernel_rfl
  have hp : Tryz.prog.stoodInHeld 25 = false := by kernel_rfl
  rw [show (10000 : Nat) = 9999 + 1 from rfl, run_equalIn_agg w 9999 25 _ _ hS hp]
  simp only [Program.fieldsOf, Tryz.underlying25]
  unfold sameM
  exact (eqf_step (by decide) (a := .string ⟨x.cur.toArray⟩) (b := .string ⟨y.cur.toArray⟩) (by go_simp) (by go_simp) (by rw [run_equalIn_string w 9998 _ _ _ Tryz.underlying9]; simp) (eqf_step (by decide) (a := .string ⟨x.amt.toArray⟩) (b := .string ⟨y.amt.toArray⟩) (by go_simp) (by go_simp) (by rw [run_equalIn_string w 9998 _ _ _ Tryz.underlying23]; simp) eqf_nil))
theorem guardM : Tryz.prog.eqGuardType Tryz.prog.depth 25 = false := by kernel_rfl
def sameMs : List Mon → List Mon → Bool
  | [], [] => true
  | x :: xs, y :: ys => sameM x y && sameMs xs ys
  | _, _ => false
theorem sameMs_len : ∀ {xs ys : List Mon}, xs.length ≠ ys.length → sameMs xs ys = false
  | [], [], h => absurd rfl h
  | [], _ :: _, _ => rfl
  | _ :: _, [], _ => rfl
  | x :: xs, y :: ys, h => by
    have : sameMs xs ys = false := sameMs_len (fun e => h (by simp [e]))
    simp [sameMs, this]
theorem sameMs_self : ∀ xs : List Mon, sameMs xs xs = true
  | [] => rfl
  | x :: xs => by simp [sameMs, sameM, sameMs_self xs]
theorem sameMs_drop {xs ys : List Mon} {k : Nat} {x y : Mon} (hx : xs[k]? = some x) (hy : ys[k]? = some y) : sameMs (xs.drop k) (ys.drop k) = (sameM x y && sameMs (xs.drop (k + 1)) (ys.drop (k + 1))) := by
  obtain ⟨h1, rfl⟩ := List.getElem?_eq_some_iff.1 hx
  obtain ⟨h2, rfl⟩ := List.getElem?_eq_some_iff.1 hy
  rw [List.drop_eq_getElem_cons h1, List.drop_eq_getElem_cons h2]; rfl
set_option maxHeartbeats 4000000 in
set_option maxRecDepth 100000 in
theorem eqMs (A B : Option Addr) (xs ys : List Mon) (n m c c' : Nat) (w : World) (hn : xs.length = n) (hm : ys.length = m) (hn2 : n ≤ 1000000000) (hm2 : m ≤ 1000000000) (h : MonAt w A xs) (h' : MonAt w B ys) :
    Calls Tryz.prog 28 #[.slice A n c, .slice B m c'] w fun e w' => e = .returned (.bool (sameMs xs ys)) ∧ Below w.heap.size w w' := by
  by_cases hnm : n = m
  rotate_left
  · have HV : Hid (sameMs xs ys = false) := sameMs_len (by omega)
    have e1 : ((n : Int) == (m : Int)) = false := intbne (by omega)
    have e2 := bneq' e1
    rw [HV.out]
    clear h h' hn hm hnm
    go_enter Tryz.func28, Tryz.ntmps28
    go_wp2
    go_ret
    exact ⟨rfl, Below.refl _ _⟩
  subst hnm
  have H1 := Lib.hid h
  have H2 := Lib.hid h'
  have hn1 : xs.length ≤ n := by omega
  have hn3 : n ≤ xs.length := by omega
  have hm1 : ys.length ≤ n := by omega
  have hm3 : n ≤ ys.length := by omega
  clear h h' hn hm
  go_enter Tryz.func28, Tryz.ntmps28
  go_wp2_with fail
  go_loopw [13] (fun iv wr => ∃ k : Nat, k ≤ n ∧ iv = .int .i64 (k : Int) ∧ Hid (sameMs xs ys = sameMs (xs.drop k) (ys.drop k)) ∧ Below w.heap.size w wr) (fun iv _ => n - (intOf iv).toNat)
  case atStart => exact ⟨0, Nat.zero_le _, rfl, rfl, Below.refl _ _⟩
  case round =>
    obtain ⟨k, hk, rfl, HK, hb⟩ := hrel
    by_cases hlt : k < n
    · obtain ⟨x, hx⟩ : ∃ x, xs[k]? = some x := ⟨_, List.getElem?_eq_getElem (by omega)⟩
      obtain ⟨y, hy⟩ : ∃ y, ys[k]? = some y := ⟨_, List.getElem?_eq_getElem (by omega)⟩
      obtain ⟨b, o, rfl, hbs, px0, px1⟩ := (H1.out.below hb) k x hx
      obtain ⟨b', o', rfl, hds, py0, py1⟩ := (H2.out.below hb) k y hy
      have HD := Lib.hid (sameMs_drop hx hy)
      clear hx hy
      go_wp2_with fail
      refine wp_region_kept (by kernel_rfl) (by kernel_rfl) ?_
      refine kept_val _ (fun _ => rfl) (fun ρ w hw => by go_simp; first | done | with_reducible rfl) ?_
      simp only [Act.put, List.setIfInBounds_toArray, List.set_cons_zero, List.set_cons_succ, Nat.reduceAdd]
      refine kept_val _ (fun _ => rfl) (fun ρ w hw => by go_simp; first | done | with_reducible rfl) ?_
      simp only [Act.put, List.setIfInBounds_toArray, List.set_cons_zero, List.set_cons_succ, Nat.reduceAdd]
      refine kept_val _ (fun _ => rfl) (fun ρ w hw => by go_simp; first | done | with_reducible rfl) ?_
      simp only [Act.put, List.setIfInBounds_toArray, List.set_cons_zero, List.set_cons_succ, Nat.reduceAdd]
      refine kept_val _ (fun _ => rfl) (fun ρ w hw => by have q0 := (hw.cell (p := ⟨b, o + k * 2, none⟩) hbs).trans px0; have q1 := (hw.cell (p := ⟨b, o + k * 2 + 1, none⟩) hbs).trans px1; go_simp; first | done | with_reducible rfl) ?_
      simp only [Act.put, List.setIfInBounds_toArray, List.set_cons_zero, List.set_cons_succ, Nat.reduceAdd]
      refine kept_val _ (fun _ => rfl) (fun ρ w hw => by go_simp; first | done | with_reducible rfl) ?_
      simp only [Act.put, List.setIfInBounds_toArray, List.set_cons_zero, List.set_cons_succ, Nat.reduceAdd]
      refine kept_val _ (fun _ => rfl) (fun ρ w hw => by go_simp; first | done | with_reducible rfl) ?_
      simp only [Act.put, List.setIfInBounds_toArray, List.set_cons_zero, List.set_cons_succ, Nat.reduceAdd]
      refine kept_val _ (fun _ => rfl) (fun ρ w hw => by go_simp; first | done | with_reducible rfl) ?_
      simp only [Act.put, List.setIfInBounds_toArray, List.set_cons_zero, List.set_cons_succ, Nat.reduceAdd]
      refine kept_val _ (fun _ => rfl) (fun ρ w hw => by have q0 := (hw.cell (p := ⟨b', o' + k * 2, none⟩) hds).trans py0; have q1 := (hw.cell (p := ⟨b', o' + k * 2 + 1, none⟩) hds).trans py1; go_simp; first | done | with_reducible rfl) ?_
      simp only [Act.put, List.setIfInBounds_toArray, List.set_cons_zero, List.set_cons_succ, Nat.reduceAdd]
      refine kept_val _ (fun _ => rfl) (fun ρ w hw => by have hE := eqM1 x y; have hEG := guardM; go_simp; first | done | with_reducible rfl) ?_
      simp only [Act.put, List.setIfInBounds_toArray, List.set_cons_zero, List.set_cons_succ, Nat.reduceAdd]
      refine kept_end (fun ρ w6 hF => ?_)
      replace hb := bto hb hF.below
      clear hF
      cases hs : sameM x y
      · have HV : Hid (sameMs xs ys = false) := by show _ = _; rw [HK.out, HD.out, hs]; rfl
        clear hs HK HD px0 py0 px1 py1
        go_wp2
        go_ret
        exact ⟨by rw [HV.out]; first | done | rfl, hb⟩
      · have HV : Hid (sameMs xs ys = sameMs (xs.drop (k + 1)) (ys.drop (k + 1))) := by show _ = _; rw [HK.out, HD.out, hs]; rfl
        clear hs HK HD px0 py0 px1 py1
        go_wp2
        go_roundw
        case rel => exact ⟨k + 1, by omega, by go_num, HV, hb⟩
        case measure => simp [intOf]; omega
    · have HV : Hid (sameMs xs ys = true) := by show _ = _; rw [HK.out, List.drop_of_length_le (by omega), List.drop_of_length_le (by omega)]; rfl
      clear HK
      go_wp2
      go_ret
      exact ⟨by rw [HV.out]; first | done | rfl, hb⟩
theorem MonAt.take {w : World} {A : Option Addr} {ts : List Mon} (h : MonAt w A ts) (k : Nat) : MonAt w A (ts.take k) := fun i t ht => by
  rw [List.getElem?_take] at ht
  split at ht
  · exact h i t ht
  · cases ht
theorem sameMs_eq : ∀ {xs ys : List Mon}, sameMs xs ys = true → xs = ys
  | [], [], _ => rfl
  | [], _ :: _, h => by cases h
  | _ :: _, [], h => by cases h
  | x :: xs, y :: ys, h => by
    have h1 : (sameM x y && sameMs xs ys) = true := h
    rw [Bool.and_eq_true] at h1
    have h2 := h1.1
    unfold sameM at h2
    simp only [Bool.and_true, Bool.and_eq_true, beq_iff_eq] at h2
    rw [sameMs_eq h1.2, mon_eq h2.1 h2.2]
theorem sameMs_iff (xs ys : List Mon) : sameMs xs ys = true ↔ xs = ys := ⟨sameMs_eq, fun h => by rw [h]; exact sameMs_self ys⟩
/-- slices.Clone at amounts -/
theorem cloneM (A : Option Addr) (ps : List Mon) (n c : Nat) (w : World) (hn : ps.length = n) (h0 : 0 < n) (hn2 : n ≤ 1000000) (h : MonAt w A ps) :
    Calls Tryz.prog 97 #[.slice A n c] w fun e w' => ∃ g cp, e = .returned (.slice (some ⟨g, 0, none⟩) n cp) ∧ n ≤ cp ∧ cp ≤ 9223372036854775807 ∧ w.heap.size ≤ g ∧ w'.ownsRow w.heap.size 25 2 (.slice (some ⟨g, 0, none⟩) n cp) n (rowsM ps) ∧ CRow w' g 25 (rowsM ps) ∧ Below w.heap.size w w' := by
  obtain ⟨x0, hx0⟩ : ∃ x, ps[0]? = some x := ⟨_, List.getElem?_eq_getElem (by omega)⟩
  obtain ⟨b, o, rfl, hbs, -⟩ := h 0 x0 hx0
  obtain ⟨i0, e0, e1, e2, e3⟩ := info_parts info_mon
  refine (AnyE.slices_Clone Tryz.cloneMon i0 _ 2 32 e0 e1 e2 e3 rfl (by decide) Tryz.sizeOf25 b o n c (rowsM ps) w (by rw [rowsM_len, hn]) (by unfold maxLen; omega) (by omega) (fun j u hu => ?_) (rowsM_one ps)).mono ?_
  · obtain ⟨x, h1, h2⟩ := rowsM_get hu
    obtain ⟨b', o', hA, -, hc1, hc2⟩ := h (j / 2) x h1
    cases hA
    by_cases hj : j % 2 = 0
    · rw [if_pos hj] at h2
      rw [h2, show o + j = o + j / 2 * 2 by omega]; exact hc1
    · rw [if_neg hj] at h2
      rw [h2, show o + j = o + j / 2 * 2 + 1 by omega]; exact hc2
  · rintro e w' ⟨v, rfl, hown, -, hb⟩
    have hown' : w'.ownsRow w.heap.size 25 2 v n (rowsM ps) := hown
    obtain ⟨B, cp, rfl, hcp, hcm⟩ : ∃ A c, v = .slice A n c ∧ n ≤ c ∧ c ≤ 9223372036854775807 := by
      rcases hown'.2 with ⟨hv, h1⟩ | ⟨g, cap, cur, hv, _, _, hcap, hmx, _⟩
      · omega
      · exact ⟨_, _, hv, hcap, by first | exact hmx | (unfold maxLen at hmx; exact hmx) | omega⟩
    obtain ⟨g, rfl, hg, hr⟩ := own_crow hown' (by rw [rowsM_len, hn]) h0
    exact ⟨g, cp, rfl, hcp, hcm, hg, hown', hr, hb⟩
set_option maxRecDepth 100000 in
theorem cloneM0 (A : Option Addr) (c : Nat) (w : World) :
    Calls Tryz.prog 97 #[.slice A 0 c] w fun e w' => ∃ B cp, e = .returned (.slice B 0 cp) ∧ Below w.heap.size w w' := by
  cases A with
  | none =>
    refine (AnyE.slices_Clone_nil Tryz.cloneMon 0 c w).mono ?_
    rintro e w' ⟨rfl, rfl⟩
    exact ⟨none, 0, rfl, Below.refl _ _⟩
  | some a =>
    obtain ⟨i0, hi, hz0, hz1, hz2⟩ := info_parts info_mon
    have q22 : ∀ w, (binOp .eql 35 (.slice (some a) 0 c) (.slice none 0 0)).run Tryz.prog w = .ok (.bool false) w := fun w => Lib.run_eql_slice_nil w _ _ (some a) 0 c 0 0 Tryz.underlying35
    go_enter Tryz.func97, Tryz.ntmps97
    go_wp2_with (at_builtin; refine wpList_append_own _ rfl _ _ 35 rfl w.heap.size 25 i0 (.agg #[.string ⟨#[]⟩, .string ⟨#[]⟩]) 2 32 Tryz.underlying35 hi hz0 hz1 hz2 rfl (by decide) _ _ _ rfl (World.ownsRow_made w #[] 0 (Nat.le_refl _) (Nat.zero_le _) (by simp)) a 0 c [] rfl ?qc1 ?qc2 ?qc3 ?qc4 ?qc5 ?qc6 ?_)
    case qc1 => rfl
    case qc2 => intro j u hu; simp at hu
    case qc3 => intro u hu; simp at hu
    case qc4 => unfold maxLen; omega
    case qc5 => omega
    case qc6 => simp
    intro v' w' hown hgrow _
    obtain ⟨B, cp, rfl⟩ : ∃ B cp, v' = .slice B 0 cp := by
      rcases hown.2 with ⟨rfl, -⟩ | ⟨g, cap, cur, rfl, -⟩
      · exact ⟨_, _, rfl⟩
      · exact ⟨_, _, rfl⟩
    have hb := Below.grown (below_alloc w (.cells #[] 25)) hgrow (by simp) (fun k hk => by simp [Value.ownBlock] at hk; omega)
    go_wp2
    go_ret
    exact ⟨_, _, rfl, hb⟩
end Go.Proofs.YtdjjlbfleibhjaaGreatDoor
namespace Go.Proofs.YtdjjlbfleibhjaaGreatDoor
open Go.RowKit
section
variable {P : Program} {md : Region.Mode}
/-- each operation but the last is used by a later one; each waits for earlier ones alone -/
def usedB (md : Region.Mode) (l : List Oper) (st : Oper) : Bool :=
  (List.range l.length).all (fun i => (((l ++ [st]).drop (i + 1))).any (fun o => o.after.any (fun e => Region.binds md e && e.on == i))) &&
  (List.range (l.length + 1)).all (fun j => (((l ++ [st])[j]?).map (fun o => o.after.all (fun e => decide (e.on < j)))).getD true)
theorem usedB_use {l : List Oper} {st : Oper} (h : usedB md l st = true) {i : Nat} (hi : i < l.length) : ∃ j o e, i < j ∧ (l ++ [st])[j]? = some o ∧ e ∈ o.after ∧ Region.binds md e = true ∧ e.on = i := by
  simp only [usedB, Bool.and_eq_true, List.all_eq_true, List.mem_range, List.any_eq_true] at h
  obtain ⟨o, ho, hh⟩ := h.1 i hi
  obtain ⟨k, hk⟩ := List.mem_iff_getElem?.1 ho
  rw [List.getElem?_drop] at hk
  rw [Array.any_eq_true] at hh
  obtain ⟨m, hm, he⟩ := hh
  simp only [Bool.and_eq_true, beq_iff_eq] at he
  exact ⟨i + 1 + k, o, o.after[m], by omega, hk, Array.getElem_mem hm, he.1, he.2⟩
theorem usedB_back {l : List Oper} {st : Oper} (h : usedB md l st = true) {j : Nat} {o : Oper} (ho : (l ++ [st])[j]? = some o) : ∀ e ∈ o.after, e.on < j := by
  simp only [usedB, Bool.and_eq_true, List.all_eq_true, List.mem_range] at h
  have hj : j < l.length + 1 := by have := (List.getElem?_eq_some_iff.1 ho).1; simpa using this
  have h2 := h.2 j hj
  rw [ho] at h2
  simp only [Option.map_some, Option.getD_some, Array.all_eq_true_iff_forall_mem] at h2
  intro e he
  simpa using h2 e he
structure Tw (l : List Oper) (st : Oper) (md : Region.Mode) (listed listed0 : Array Bool) : Prop where
  s : listed.size = l.length + 1
  s0 : listed0.size = l.length
  same : ∀ j, j < l.length → listed.getD j true = listed0.getD j true
  last : listed.getD l.length true = false
  down : ∀ j o, j < l.length → listed.getD j true = true → (l ++ [st])[j]? = some o → ∀ e ∈ o.after, Region.binds md e = true → listed.getD e.on true = true
theorem getD_tf {x : Array Bool} {j : Nat} (h : j < x.size) : x.getD j true = x.getD j false := by simp [h]
theorem Tw.all {l : List Oper} {st : Oper} {listed listed0 : Array Bool} (t : Tw l st md listed listed0) (hU : usedB md l st = true) (h : Region.ready md l.toArray listed0 = []) : ∀ j, j < l.length → listed0.getD j true = true := by
  intro j
  induction j using Nat.strongRecOn with
  | _ j ih =>
    intro hj
    by_cases hx : listed0.getD j true = true
    · exact hx
    · have : j ∈ Region.ready md l.toArray listed0 := by
        rw [mem_ready]
        refine ⟨by simpa using hx, l[j], by simp [hj], fun e he _ => ?_⟩
        have h1 : (l ++ [st])[j]? = some l[j] := by rw [List.getElem?_append_left hj]; simp [hj]
        have h2 := usedB_back hU h1 e he
        rw [← getD_tf (by rw [t.s0]; omega)]
        exact ih e.on h2 (by omega)
      rw [h] at this; cases this
theorem Tw.ready_last {l : List Oper} {st : Oper} {listed listed0 : Array Bool} (t : Tw l st md listed listed0) (hU : usedB md l st = true) (h : ∀ j, j < l.length → listed0.getD j true = true) : l.length ∈ Region.ready md (l ++ [st]).toArray listed := by
  rw [mem_ready]
  refine ⟨t.last, st, by simp, fun e he _ => ?_⟩
  have h2 := usedB_back hU (j := l.length) (o := st) (by simp) e he
  rw [← getD_tf (by rw [t.s]; omega), t.same _ h2]
  exact h _ h2
theorem Tw.of_last {l : List Oper} {st : Oper} {listed listed0 : Array Bool} (t : Tw l st md listed listed0) (hU : usedB md l st = true) (h : l.length ∈ Region.ready md (l ++ [st]).toArray listed) : ∀ j, j < l.length → listed0.getD j true = true := by
  obtain ⟨_, o, ho, hall⟩ := mem_ready.1 h
  have hst : o = st := by simpa using ho.symm
  subst hst
  have key : ∀ m j, l.length - j ≤ m → j < l.length → listed.getD j true = true := by
    intro m
    induction m with
    | zero => intro j h1 h2; omega
    | succ m ih =>
      intro j h1 h2
      obtain ⟨k, o', e, hk, ho', he, hb, rfl⟩ := usedB_use hU h2
      by_cases hkl : k < l.length
      · exact t.down k o' hkl (ih k (by omega) hkl) ho' e he hb
      · have hk2 : k = l.length := by have := (List.getElem?_eq_some_iff.1 ho').1; simp at this; omega
        subst hk2
        have ho2 : o' = o := by simpa using ho'.symm
        subst ho2
        have := hall e he hb
        rw [getD_tf (by rw [t.s]; omega)]
        exact this
  intro j hj
  rw [← t.same j hj]
  exact key _ j (Nat.le_refl _) hj
theorem Tw.ready {l : List Oper} {st : Oper} {listed listed0 : Array Bool} (t : Tw l st md listed listed0) (hU : usedB md l st = true) {i : Nat} (hi : i < l.length) (h : i ∈ Region.ready md (l ++ [st]).toArray listed) : i ∈ Region.ready md l.toArray listed0 := by
  obtain ⟨h0, o, ho, hall⟩ := mem_ready.1 h
  have ho2 : (l ++ [st])[i]? = some o := by simpa using ho
  rw [mem_ready]
  refine ⟨by rw [← t.same i hi]; exact h0, o, by rw [List.getElem?_append_left hi] at ho2; simpa using ho2, fun e he hb => ?_⟩
  have h2 := usedB_back hU ho2 e he
  have h3 := hall e he hb
  rw [← getD_tf (by rw [t.s0]; omega), ← t.same e.on (by omega), getD_tf (by rw [t.s]; omega)]
  exact h3
theorem Tw.step {l : List Oper} {st : Oper} {listed listed0 : Array Bool} (t : Tw l st md listed listed0) (hU : usedB md l st = true) {i : Nat} (hi : i < l.length) (h : i ∈ Region.ready md (l ++ [st]).toArray listed) : Tw l st md (listed.setIfInBounds i true) (listed0.setIfInBounds i true) := by
  obtain ⟨h0, o, ho, hall⟩ := mem_ready.1 h
  have ho2 : (l ++ [st])[i]? = some o := by simpa using ho
  refine ⟨by simp [t.s], by simp [t.s0], fun j hj => ?_, by rw [getD_set_ne true (by omega)]; exact t.last, fun j o' hj hl ho' e he hb => ?_⟩
  · by_cases hij : i = j
    · subst hij; simp [t.s, t.s0, hi, Nat.lt_succ_of_lt hi]
    · rw [getD_set_ne true hij, getD_set_ne true hij]; exact t.same j hj
  · by_cases hij : i = j
    · subst hij
      have : o' = o := by rw [ho2] at ho'; injection ho' with h; exact h.symm
      subst this
      have h2 := usedB_back hU ho2 e he
      have h3 := hall e he hb
      rw [getD_set_ne true (by omega), getD_tf (by rw [t.s]; omega)]
      exact h3
    · rw [getD_set_ne true hij] at hl
      have := t.down j o' hj hl ho' e he hb
      by_cases hie : i = e.on
      · rw [← hie]; simp [t.s, Nat.lt_succ_of_lt hi]
      · rw [getD_set_ne true hie]; exact this
end
end Go.Proofs.YtdjjlbfleibhjaaGreatDoor
namespace Go.Proofs.YtdjjlbfleibhjaaGreatDoor
open Go.RowKit
section
variable {P : Program} {md : Region.Mode}
theorem Oper.wp_mono2 {o : Oper} {a : Act} {w : World} {K K' : Act → World → Prop} {Q Q' : Exit → Act → World → Prop} (h : ∀ a w, K a w → K' a w) (hp : ∀ c a w, Q (.panic c) a w → Q' (.panic c) a w) (hl : LetsOut Q → LetsOut Q')
    (hh : o.wp P a w K Q) : o.wp P a w K' Q' := by
  unfold Oper.wp at *
  generalize (execOp a.eval o).run P w = r at *
  cases r with
  | ok n w' =>
    cases n <;> simp only [Oper.upon] at hh ⊢ <;>
      first
        | exact h _ _ hh
        | exact Calls.mono hh (fun e w'' he => by
            cases e <;> first
              | exact h _ _ he
              | exact hp _ _ _ he
              | exact hl he)
        | exact Rows.mono hh (fun _ _ he => h _ _ he)
  | halt x w' =>
    cases x <;> simp only [Oper.upon] at hh ⊢ <;> first
      | exact hp _ _ _ hh
      | exact hh
theorem wanted_free {o : Oper} (h : o.guard = none) (f : Nat → Option Bool) : Region.wanted o f = true := by unfold Region.wanted; rw [h]
theorem wpAny_snoc {L : List Oper} {st : Oper} {Q : Exit → Act → World → Prop} (hU : usedB md L st = true) (hg : st.guard = none) (hgs : ∀ o ∈ L, o.guard = none) :
    ∀ (fuel : Nat) (listed listed0 : Array Bool) (a : Act) (w : World), Tw L st md listed listed0 →
    wpAny P md L.toArray (Exit.then (wpList P (L ++ [st]).toArray Q [st]) Q) fuel listed0 a w → wpAny P md (L ++ [st]).toArray Q (fuel + 1) listed a w := by
  have lo : LetsOut (Exit.then (wpList P (L ++ [st]).toArray Q [st]) Q) → LetsOut Q := fun ⟨a, w, h⟩ => ⟨a, w, h⟩
  have fin : ∀ (fuel : Nat) (listed listed0 : Array Bool) (a : Act) (w : World), Tw L st md listed listed0 → (∀ j, j < L.length → listed0.getD j true = true) → wpList P (L ++ [st]).toArray Q [st] a w →
      wpOp P (L ++ [st]).toArray Q L.length (wpAny P md (L ++ [st]).toArray Q fuel (listed.setIfInBounds L.length true)) a w := by
    intro fuel listed listed0 a w t hall h
    have hnone : Region.ready md (L ++ [st]).toArray (listed.setIfInBounds L.length true) = [] := by
      apply List.eq_nil_iff_forall_not_mem.2
      intro j hj
      have hj0 := (mem_ready.1 hj).1
      by_cases hjl : j = L.length
      · subst hjl; simp [t.s] at hj0
      · have hlt : j < L.length := by
          obtain ⟨o, ho, _⟩ := (mem_ready.1 hj).2
          have := (Array.getElem?_eq_some_iff.1 ho).1; simp at this; omega
        rw [getD_set_ne true (by omega), t.same j hlt, hall j hlt] at hj0; cases hj0
    have hK : ∀ a w, Q .normal a w → wpAny P md (L ++ [st]).toArray Q fuel (listed.setIfInBounds L.length true) a w := by
      intro a w hq
      cases fuel with
      | zero => exact ⟨hnone, hq⟩
      | succ n => exact ⟨fun _ => hq, fun j hj => by rw [hnone] at hj; cases hj⟩
    unfold wpList at h
    unfold wpOp
    simp only [List.getElem?_toArray, List.getElem?_append_right (Nat.le_refl _), Nat.sub_self, List.getElem?_cons_zero]
    simp only [wanted_free hg, if_true] at h ⊢
    rcases h with h | h
    · exact .inl (Oper.wp_mono (fun a w h => hK a w h) h)
    · exact .inr h
  intro fuel
  induction fuel with
  | zero =>
    intro listed listed0 a w t h
    have hall := t.all hU h.1
    refine ⟨fun h0 => ?_, fun i hi => ?_⟩
    · have := t.ready_last hU hall; rw [h0] at this; cases this
    · by_cases hil : i < L.length
      · have := t.ready hU hil hi; rw [h.1] at this; cases this
      · have hi2 : i = L.length := by
          obtain ⟨o, ho, _⟩ := (mem_ready.1 hi).2
          have := (Array.getElem?_eq_some_iff.1 ho).1; simp at this; omega
        subst hi2
        exact fin 0 _ _ _ _ t hall h.2
  | succ fuel ih =>
    intro listed listed0 a w t h
    refine ⟨fun h0 => ?_, fun i hi => ?_⟩
    · have hr0 : Region.ready md L.toArray listed0 = [] := by
        apply List.eq_nil_iff_forall_not_mem.2
        intro j hj
        obtain ⟨j0, o, ho, hall⟩ := mem_ready.1 hj
        have hjl : j < L.length := by have := (Array.getElem?_eq_some_iff.1 ho).1; simpa using this
        have : j ∈ Region.ready md (L ++ [st]).toArray listed := by
          rw [mem_ready]
          have ho2 : (L ++ [st])[j]? = some o := by rw [List.getElem?_append_left hjl]; simpa using ho
          refine ⟨by rw [t.same j hjl]; exact j0, o, by simpa using ho2, fun e he hb => ?_⟩
          have h2 := usedB_back hU ho2 e he
          have h3 := hall e he hb
          rw [← getD_tf (by rw [t.s]; omega), t.same e.on (by omega), getD_tf (by rw [t.s0]; omega)]
          exact h3
        rw [h0] at this; cases this
      have := t.ready_last hU (t.all hU hr0); rw [h0] at this; cases this
    · by_cases hil : i < L.length
      · have hi0 := t.ready hU hil hi
        have h1 := h.2 i hi0
        have t' := t.step hU hil hi
        obtain ⟨hun, o, ho, _⟩ := mem_ready.1 hi0
        have hoL : o ∈ L := by
          have : L[i]? = some o := by simpa using ho
          exact List.mem_of_getElem? this
        have ho2 : (L ++ [st]).toArray[i]? = some o := by
          have : (L ++ [st])[i]? = some o := by rw [List.getElem?_append_left hil]; simpa using ho
          simpa using this
        unfold wpOp at h1 ⊢
        simp only [ho, ho2, wanted_free (hgs o hoL), if_true] at h1 ⊢
        rcases h1 with h1 | h1
        · exact .inl (Oper.wp_mono2 (fun a w h => ih _ _ _ _ t' h) (fun _ _ _ h => h) lo h1)
        · exact .inr ⟨h1.1, lo h1.2⟩
      · have hi2 : i = L.length := by
          obtain ⟨o, ho, _⟩ := (mem_ready.1 hi).2
          have := (Array.getElem?_eq_some_iff.1 ho).1; simp at this; omega
        subst hi2
        have hall := t.of_last hU hi
        have hr0 : Region.ready md L.toArray listed0 = [] := by
          apply List.eq_nil_iff_forall_not_mem.2
          intro j hj
          obtain ⟨j0, o, ho, _⟩ := mem_ready.1 hj
          have hjl : j < L.length := by have := (Array.getElem?_eq_some_iff.1 ho).1; simpa using this
          rw [hall j hjl] at j0; cases j0
        exact fin (fuel + 1) _ _ _ _ t hall (h.1 hr0)
theorem tw_start (L : List Oper) (st : Oper) : Tw L st md (Array.replicate (L ++ [st]).toArray.size false) (Array.replicate L.toArray.size false) := by
  refine ⟨by simp, by simp, fun j hj => ?_, ?_, fun j o hj hl => ?_⟩
  · simp [hj, Nat.lt_succ_of_lt hj]
  · simp
  · simp [Nat.lt_succ_of_lt hj] at hl
/-- the region's last two operations wait for all others -/
theorem wp_region_tail2 {id : Nat} {Q : Exit → Act → World → Prop} {a : Act} {w : World} {l : List Oper} {s1 s2 : Oper} (hm : P.follows .mixedOrders = true) (hB : Region.lexB .any l.toArray = true) (hU1 : usedB .any l s1 = true) (hU2 : usedB .any (l ++ [s1]) s2 = true) (hg : (l ++ [s1] ++ [s2]).all (fun o => o.guard.isNone) = true)
    (h : wpKept P l.toArray (fun w' => Below w.heap.size w w') (fun a' B => ∀ ρ w', Fits w ρ B w' → wpList P (l ++ [s1] ++ [s2]).toArray Q [s1, s2] (a' ρ) w') l 0 (fun _ => a) (fun _ => none)) : (Code.region id (l ++ [s1] ++ [s2]).toArray true).wp P Q a w := by
  simp only [Region.lexB, Bool.and_eq_true] at hB
  have hgs : ∀ o ∈ l ++ [s1] ++ [s2], o.guard = none := fun o ho => by
    have := (List.all_eq_true.1 hg) o ho
    simpa using this
  refine wp_region_any hm ?_
  have hf : Fits w (fun _ => 0) (fun _ => none) { w with drawn := w.drawn + 1 } :=
    ⟨⟨rfl, rfl, rfl, Nat.le_refl _, fun _ _ => rfl⟩, fun _ _ _ h => (by cases h), fun _ _ h => absurd rfl h⟩
  have h1 := wpAnyK_lex (C := fun w' => Below w.heap.size w w') (md := .any) hB.1 l 0 (Array.replicate l.toArray.size false) (fun _ => a) (fun _ => none) (by simp) (by simpa using hB.2) h
  have g1 : s1.guard = none := hgs s1 (by simp)
  have g2 : s2.guard = none := hgs s2 (by simp)
  have h2 := wpAny_of_kept (P := P) (md := .any) (Q := fun a' B => ∀ ρ w', Fits w ρ B w' → wpList P (l ++ [s1] ++ [s2]).toArray Q [s1, s2] (a' ρ) w') (Q' := Exit.then (wpList P (l ++ [s1]).toArray (Exit.then (wpList P (l ++ [s1] ++ [s2]).toArray Q [s2]) Q) [s1]) (Exit.then (wpList P (l ++ [s1] ++ [s2]).toArray Q [s2]) Q)) (fun a' B ρ w' hf' h' => by
    have h3 : wpList P (l ++ [s1] ++ [s2]).toArray Q [s1, s2] (a' ρ) w' := h' ρ w' hf'
    show wpList P (l ++ [s1]).toArray _ [s1] (a' ρ) w'
    rw [wpList] at h3 ⊢
    simp only [wanted_free g1, if_true] at h3 ⊢
    rcases h3 with h3 | h3
    · exact .inl (Oper.wp_mono2 (fun a w h => h) (fun _ _ _ h => h) (fun ⟨a, w, h⟩ => ⟨a, w, h⟩) h3)
    · exact .inr ⟨h3.1, (fun ⟨a, w, h⟩ => ⟨a, w, h⟩) h3.2⟩) l.toArray.size _ (fun _ => a) (fun _ => none) (fun _ => 0) _ hf (fun _ _ _ _ => rfl) (by simpa using h1)
  have h3 := wpAny_snoc (P := P) (md := .any) hU1 g1 (fun o ho => hgs o (by simp [ho])) _ _ _ a _ (tw_start l s1) h2
  have h4 := wpAny_snoc (P := P) (md := .any) hU2 g2 (fun o ho => hgs o (List.mem_append_left _ ho)) _ _ _ a _ (tw_start (l ++ [s1]) s2) h3
  simpa using h4
theorem wp_region_tail2D {id : Nat} {Q : Exit → Act → World → Prop} {a : Act} {w : World} {L : List Oper} (hne : L ≠ []) (hne2 : L.dropLast ≠ []) (hm : P.follows .mixedOrders = true) (hB : Region.lexB .any L.dropLast.dropLast.toArray = true) (hU1 : usedB .any L.dropLast.dropLast (L.dropLast.getLast hne2) = true) (hU2 : usedB .any L.dropLast (L.getLast hne) = true) (hg : L.all (fun o => o.guard.isNone) = true)
    (h : wpKept P L.dropLast.dropLast.toArray (fun w' => Below w.heap.size w w') (fun a' B => ∀ ρ w', Fits w ρ B w' → wpList P L.toArray Q [L.dropLast.getLast hne2, L.getLast hne] (a' ρ) w') L.dropLast.dropLast 0 (fun _ => a) (fun _ => none)) : (Code.region id L.toArray true).wp P Q a w := by
  have e1 : L.dropLast.dropLast ++ [L.dropLast.getLast hne2] = L.dropLast := List.dropLast_concat_getLast hne2
  have e2 : L.dropLast ++ [L.getLast hne] = L := List.dropLast_concat_getLast hne
  have := wp_region_tail2 (P := P) (id := id) (Q := Q) (a := a) (w := w) (l := L.dropLast.dropLast) (s1 := L.dropLast.getLast hne2) (s2 := L.getLast hne) hm hB hU1 (by rw [e1]; exact hU2) (by rw [e1, e2]; exact hg) (by rw [e1, e2]; exact h)
  rwa [e1, e2] at this
end
end Go.Proofs.YtdjjlbfleibhjaaGreatDoor
namespace Go.Proofs.YtdjjlbfleibhjaaGreatDoor
open Go.RowKit
section
variable {P : Program} {md : Region.Mode} {F : Fence} {n : Nat}
end
end Go.Proofs.YtdjjlbfleibhjaaGreatDoor
