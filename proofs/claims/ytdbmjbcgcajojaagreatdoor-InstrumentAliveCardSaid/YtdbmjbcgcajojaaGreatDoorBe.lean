/- Be: shelfcut parsea parse -/
import Derived.Test.YtdbmjbcgcajojaaGreatDoorBd
import Derived.Shelf.LaysM
import Derived.Shelf.Strings.Cut
import Derived.Shelf.Strings.Shaped
import Derived.Test.YtdbmjbcgcajojaaGreatDoorProg
import Derived.Lib.IndexMore
/- strings.Cut, laid at this seat's numbers. -/
namespace Go.Proofs
open Go.Shelf
def Tryz.laysM145_ren : Go.Shelf.Ren := ⟨fun | 145 => 102 | 220 => 155 | 219 => 182 | 217 => 199 | 225 => 200 | 224 => 201 | 267 => 202 | 266 => 227 | 314 => 228 | n => n, fun | 9 => 9 | 4 => 4 | 59 => 101 | 3 => 3 | 5 => 5 | 46 => 181 | 146 => 211 | 51 => 210 | n => n, fun | 1 => 0 | n => n⟩
theorem Tryz.laysM145 : Go.Proofs.LaysM.n145 Tryz.prog Tryz.laysM145_ren := {
  mixed := by kernel_rfl
  f145 := Tryz.func102.trans (congrArg some (by kernel_rfl))
  f217 := Tryz.func199.trans (congrArg some (by kernel_rfl))
  f219 := Tryz.func182.trans (congrArg some (by kernel_rfl))
  f220 := Tryz.func155.trans (congrArg some (by kernel_rfl))
  f224 := Tryz.func201.trans (congrArg some (by kernel_rfl))
  f225 := Tryz.func200.trans (congrArg some (by kernel_rfl))
  f266 := Tryz.func227.trans (congrArg some (by kernel_rfl))
  f267 := Tryz.func202.trans (congrArg some (by kernel_rfl))
  f314 := Tryz.func228.trans (congrArg some (by kernel_rfl))
  t3 := Tryz.underlying3
  a3 := Tryz.isAgg3
  z3 := Tryz.sizeOf3
  v3 := Tryz.zeroValue3
  t4 := Tryz.underlying4
  a4 := Tryz.isAgg4
  z4 := Tryz.sizeOf4
  v4 := Tryz.zeroValue4
  t5 := Tryz.underlying5
  a5 := Tryz.isAgg5
  z5 := Tryz.sizeOf5
  v5 := Tryz.zeroValue5
  t9 := Tryz.underlying9
  a9 := Tryz.isAgg9
  z9 := Tryz.sizeOf9
  v9 := Tryz.zeroValue9
  t46 := Tryz.underlying181
  a46 := Tryz.isAgg181
  z46 := Tryz.sizeOf181
  v46 := Tryz.zeroValue181
  t51 := Tryz.underlying210
  a51 := Tryz.isAgg210
  z51 := Tryz.sizeOf210
  v51 := Tryz.zeroValue210
  t59 := Tryz.underlying101
  a59 := Tryz.isAgg101
  z59 := Tryz.sizeOf101
  v59 := Tryz.zeroValue101
  t146 := Tryz.underlying211
  a146 := Tryz.isAgg211
  z146 := Tryz.sizeOf211
  v146 := Tryz.zeroValue211
  g1 := by kernel_rfl
  i3 := by kernel_rfl
  i4 := by kernel_rfl
  i5 := by kernel_rfl
  i9 := by kernel_rfl
  i46 := by kernel_rfl
  i51 := by kernel_rfl
  i59 := by kernel_rfl
  i146 := by kernel_rfl
  m1 := by kernel_rfl
  s1_3 := fun w h => Go.Proofs.cell_of_shapedOpen_int (zero := #[.int .i64 0]) (t := 3) h (of_decide_eq_true (by kernel_rfl)) (by kernel_rfl) rfl (by kernel_rfl) (by kernel_rfl) Tryz.underlying3 }
open Go.RowKit Go.Lib in
theorem Tryz.strings_Cut_shaped (s sep : ByteArray) (w : World) (h : w.ShapedOpen Tryz.prog) (hs : s.size < 4294967281) :
    Calls Tryz.prog 102 #[.string s, .string sep] w fun e w' => e = .returned (.tuple #[.string ⟨(Lib.cut s.data.toList sep.data.toList).1.toArray⟩, .string ⟨(Lib.cut s.data.toList sep.data.toList).2.1.toArray⟩, .bool (Lib.cut s.data.toList sep.data.toList).2.2]) ∧ ∃ n, w' = w.drewN n := Any.strings_Cut_shaped Tryz.laysM145 s sep w h hs
end Go.Proofs
/- Plain: the texts of fractions. -/
namespace Go.Proofs.YtdbmjbcgcajojaaGreatDoor
open Num

theorem index47_none : ∀ a : List UInt8, 47 ∉ a → Lib.index a [47] = -1
  | [], _ => rfl
  | x :: a, h => by
    have h1 : ¬ (47 = x) := fun e => h (by rw [e]; exact List.mem_cons_self)
    have ih := index47_none a (fun e => h (List.mem_cons_of_mem _ e))
    unfold Lib.index
    simp [h1, ih]
theorem index47_at : ∀ a b : List UInt8, 47 ∉ a → Lib.index (a ++ 47 :: b) [47] = (a.length : Int)
  | [], b, _ => by unfold Lib.index; simp
  | x :: a, b, h => by
    have h1 : ¬ (47 = x) := fun e => h (by rw [e]; exact List.mem_cons_self)
    have ih := index47_at a b (fun e => h (List.mem_cons_of_mem _ e))
    rw [List.cons_append]
    unfold Lib.index
    rw [ih]
    have h2 : ((a.length : Int) == -1) = false := by rw [beq_eq_false_iff_ne]; omega
    simp [h1, h2]
theorem cut47_none {a : List UInt8} (h : 47 ∉ a) : Lib.cut a [47] = (a, [], false) := by
  unfold Lib.cut; rw [index47_none a h, if_neg (by decide)]
theorem cut47_at {a : List UInt8} (b : List UInt8) (h : 47 ∉ a) : Lib.cut (a ++ 47 :: b) [47] = (a, b, true) := by
  unfold Lib.cut; rw [index47_at a b h, if_pos (by omega), Int.toNat_natCast]
  simp
theorem cut47_len (s : List UInt8) : (Lib.cut s [47]).1.length ≤ s.length ∧ (Lib.cut s [47]).2.1.length ≤ s.length := by
  unfold Lib.cut; split
  · exact ⟨by rw [List.length_take]; omega, by rw [List.length_drop]; omega⟩
  · exact ⟨Nat.le_refl _, Nat.zero_le _⟩
theorem val_printZ (z : Int) : val (printZ z) = z := by
  unfold printZ; split
  · next h => rw [h]; decide
  · exact val_canon z
theorem printL_printZ (z : Int) : printL (printZ z) = printZ z := by
  have : printL (printZ z) = if val (printZ z) = 0 then [48] else canon (val (printZ z)) := rfl
  rw [this, val_printZ]; rfl
theorem no47_dec (n : Nat) : (47 : UInt8) ∉ dec n := fun h => by
  have := List.all_eq_true.1 (dec_digs n) 47 h
  exact absurd this (by decide)
theorem no47_canon (z : Int) : (47 : UInt8) ∉ canon z := by
  unfold canon; split
  · intro h
    rcases List.mem_cons.1 h with h | h
    · exact absurd h (by decide)
    · exact no47_dec _ h
  · exact no47_dec _
theorem no47_printZ (z : Int) : (47 : UInt8) ∉ printZ z := by
  unfold printZ; split
  · decide
  · exact no47_canon z
theorem parseI_printZ {z : Int} (h : (printZ z).length ≤ 65536) : parseI (printZ z) = (canon z, 0) := by
  unfold parseI; rw [if_neg (by omega), if_pos (printL_printZ z), val_printZ]
/-- the denominator's text -/
def belowOf (s : List UInt8) : List UInt8 := if (Lib.cut s [47]).2.2 then (Lib.cut s [47]).2.1 else [49]
theorem belowOf_t (s : List UInt8) (h : (Lib.cut s [47]).2.2 = true) : belowOf s = (Lib.cut s [47]).2.1 := by unfold belowOf; rw [if_pos h]
theorem belowOf_f (s : List UInt8) (h : (Lib.cut s [47]).2.2 = false) : belowOf s = [49] := by unfold belowOf; rw [if_neg (by rw [h]; decide)]
/-- what Parse finds -/
def parseF (s : List UInt8) : Option Rat :=
  if (parseI (Lib.cut s [47]).1).2 = 0 ∧ (parseI (belowOf s)).2 = 0 ∧ 0 < val (parseI (belowOf s)).1 ∧ printQ (Rat.divInt (val (parseI (Lib.cut s [47]).1).1) (val (parseI (belowOf s)).1)) = s then
    some (Rat.divInt (val (parseI (Lib.cut s [47]).1).1) (val (parseI (belowOf s)).1)) else none
theorem parseF_print {s : List UInt8} {q : Rat} (h : parseF s = some q) : printQ q = s := by
  unfold parseF at h
  split at h
  · next hc => injection h with h; rw [← h]; exact hc.2.2.2
  · cases h
theorem parseF_of {s : List UInt8} {q : Rat} (h1 : (parseI (Lib.cut s [47]).1) = (canon q.num, 0)) (h2 : parseI (belowOf s) = (canon (q.den : Int), 0)) (h3 : printQ q = s) : parseF s = some q := by
  have hz := q.den_nz
  unfold parseF
  rw [h1, h2]
  simp only [val_canon, Rat.num_divInt_den]
  rw [if_pos ⟨trivial, trivial, by omega, h3⟩]
theorem parseF_printQ {q : Rat} (h : (printQ q).length ≤ 65536) : parseF (printQ q) = some q := by
  by_cases hd : q.den = 1
  · have e : printQ q = printZ q.num := by unfold printQ; rw [if_pos hd]
    rw [e] at h
    have hc := cut47_none (no47_printZ q.num)
    refine parseF_of ?_ ?_ rfl
    · rw [e, hc]; exact parseI_printZ h
    · unfold belowOf; rw [e, hc, hd]; exact (by decide : parseI [49] = (canon ((1 : Nat) : Int), 0))
  · have e : printQ q = printZ q.num ++ 47 :: printZ (q.den : Int) := by unfold printQ; rw [if_neg hd]
    have hl : (printZ q.num).length + ((printZ (q.den : Int)).length + 1) ≤ 65536 := by rw [e] at h; simpa using h
    have hc := cut47_at (printZ (q.den : Int)) (no47_printZ q.num)
    refine parseF_of ?_ ?_ rfl
    · rw [e, hc]; exact parseI_printZ (by omega)
    · unfold belowOf; rw [e, hc]; exact parseI_printZ (by omega)
theorem parseI_len (s : List UInt8) : (parseI s).1.length ≤ s.length + 1 := by
  unfold parseI; split
  · simp
  · split
    · exact canon_len_le _ _ (val_lt s)
    · simp
theorem belowOf_len (s : List UInt8) : (belowOf s).length ≤ s.length + 1 := by
  unfold belowOf; split
  · have := (cut47_len s).2; omega
  · simp
theorem printQ_len {q : Rat} {k : Nat} (h : Bd k q) : (printQ q).length ≤ 2 * k + 5 := by
  have h1 : ∀ z : Int, z.natAbs < 10 ^ k → (printZ z).length ≤ k + 2 := fun z hz => by
    unfold printZ; split
    · simp
    · have := canon_len_le z k hz; omega
  have a := h1 q.num h.1
  have b := h1 (q.den : Int) (by simpa using h.2)
  unfold printQ; split
  · omega
  · simp; omega
end Go.Proofs.YtdbmjbcgcajojaaGreatDoor
/- Package fraction: Parse. -/
namespace Go.Proofs.YtdbmjbcgcajojaaGreatDoor
open Go.RowKit Num

theorem rCut (s : List UInt8) (hs : s.length ≤ 1000000) : Ret 102 #[.string ⟨s.toArray⟩, .string ⟨#[47]⟩] (.tuple #[.string ⟨(Lib.cut s [47]).1.toArray⟩, .string ⟨(Lib.cut s [47]).2.1.toArray⟩, .bool (Lib.cut s [47]).2.2]) := fun w hG => by
  obtain ⟨m, hm⟩ := hG.2
  have h := Any.strings_Cut { Tryz.laysM145 with } ⟨s.toArray⟩ ⟨#[47]⟩ m w (by show s.toArray.size < _; simp; omega) hm
  exact h.mono fun e w' ⟨he, n, hw⟩ => by
    subst hw
    exact ⟨he, bdrewN (Below.refl _ _) n⟩
theorem riParse (l : List UInt8) (hl : l.length ≤ 1000000) : Ret 103 #[.string ⟨l.toArray⟩] (.tuple #[.string ⟨(parseI l).1.toArray⟩, .int .i64 (parseI l).2]) := fun w _ => iparse_any l w hl
theorem rMade {l l' : List UInt8} (hl : l.length ≤ 1000000) (hl' : l'.length ≤ 1000000) (h0 : val l' ≠ 0) : Ret 87 #[.string ⟨l.toArray⟩, .string ⟨l'.toArray⟩] (Value.agg #[Value.string ⟨List.toArray (fN (Rat.divInt (val l) (val l')))⟩, Value.string ⟨List.toArray (fD (Rat.divInt (val l) (val l')))⟩]) := fun w hG => made_any l l' w hl hl' hG h0

set_option maxHeartbeats 1000000 in
set_option maxRecDepth 100000 in
/-- the numerator is no integer -/
theorem fparse_e1 (s a b0 b n d : List UInt8) (sl : Bool) (e1 e2 : Int) (w : World) (hG : Glob w) (hs : s.length ≤ 65536) (hbt : sl = true → b = b0) (hbf : sl = false → b = [49])
    (cC : Ret 102 #[.string ⟨s.toArray⟩, .string ⟨#[47]⟩] (.tuple #[.string ⟨a.toArray⟩, .string ⟨b0.toArray⟩, .bool sl]))
    (c1 : Ret 103 #[.string ⟨a.toArray⟩] (.tuple #[.string ⟨n.toArray⟩, .int .i64 e1])) (c2 : Ret 103 #[.string ⟨b.toArray⟩] (.tuple #[.string ⟨d.toArray⟩, .int .i64 e2]))
    (h1' : (e1 != 0) = true) :
    Calls Tryz.prog 40 #[.string ⟨s.toArray⟩] w fun e w' => e = .returned (.tuple #[.agg #[.string ⟨#[]⟩, .string ⟨#[]⟩], .int .i64 3]) ∧ Below w.heap.size w w' := by
  have k0 : ¬ 65536 < s.length := by omega
  have k0' : decide (65536 < s.length) = false := decide_eq_false k0
  clear hs
  cases sl
  all_goals
    first | obtain rfl := hbf rfl | obtain rfl := hbt rfl
    clear hbt hbf
    have hb := below_alloc w (.cells #[.string ⟨#[]⟩, .string ⟨#[]⟩] 24)
    have x2 := FBox.new w (.string ⟨#[]⟩) (.string ⟨#[]⟩) 24
    go_enter Tryz.func40, Tryz.ntmps40
    go_wp2_with fail
    ((with_reducible refine (cC.of hG hb).mono ?_); rintro e w1 ⟨rfl, hb1⟩)
    replace x2 := x2.below hb1
    replace hb := bto hb hb1
    go_wp2_with fail
    ((with_reducible refine (c1.of hG hb).mono ?_); rintro e w2 ⟨rfl, hb2⟩)
    replace x2 := x2.below hb2
    replace hb := bto hb hb2
    go_wp2_with fail
    ((with_reducible refine (c2.of hG hb).mono ?_); rintro e w3 ⟨rfl, hb3⟩)
    replace x2 := x2.below hb3
    replace hb := bto hb hb3
    clear hb1 hb2 hb3
    have f0 := x2.f0
    have f1 := x2.f1
    have c0 := x2.c0
    have c1 := x2.c1
    go_wp2_with fail
    have hy := x2.set (.string ⟨#[]⟩) (.string ⟨#[]⟩)
    have d0 := hy.c0
    have d1 := hy.c1
    refine bodyPost_ret (v := .tuple #[.agg #[.string ⟨#[]⟩, .string ⟨#[]⟩], .int .i64 3]) (by simp [results, Tryz.results40, go_sem, d0, d1]) rfl ?_
    exact ⟨rfl, below_set2 hb (Nat.le_refl _) _ _⟩

set_option maxHeartbeats 1000000 in
set_option maxRecDepth 100000 in
/-- the denominator is no integer -/
theorem fparse_e2 (s a b0 b n d : List UInt8) (sl : Bool) (e1 e2 : Int) (w : World) (hG : Glob w) (hs : s.length ≤ 65536) (hbt : sl = true → b = b0) (hbf : sl = false → b = [49])
    (cC : Ret 102 #[.string ⟨s.toArray⟩, .string ⟨#[47]⟩] (.tuple #[.string ⟨a.toArray⟩, .string ⟨b0.toArray⟩, .bool sl]))
    (c1 : Ret 103 #[.string ⟨a.toArray⟩] (.tuple #[.string ⟨n.toArray⟩, .int .i64 e1])) (c2 : Ret 103 #[.string ⟨b.toArray⟩] (.tuple #[.string ⟨d.toArray⟩, .int .i64 e2]))
    (h1' : (e1 != 0) = false) (h2' : (e2 != 0) = true) :
    Calls Tryz.prog 40 #[.string ⟨s.toArray⟩] w fun e w' => e = .returned (.tuple #[.agg #[.string ⟨#[]⟩, .string ⟨#[]⟩], .int .i64 3]) ∧ Below w.heap.size w w' := by
  have k0 : ¬ 65536 < s.length := by omega
  have k0' : decide (65536 < s.length) = false := decide_eq_false k0
  clear hs
  cases sl
  all_goals
    first | obtain rfl := hbf rfl | obtain rfl := hbt rfl
    clear hbt hbf
    have hb := below_alloc w (.cells #[.string ⟨#[]⟩, .string ⟨#[]⟩] 24)
    have x2 := FBox.new w (.string ⟨#[]⟩) (.string ⟨#[]⟩) 24
    go_enter Tryz.func40, Tryz.ntmps40
    go_wp2_with fail
    ((with_reducible refine (cC.of hG hb).mono ?_); rintro e w1 ⟨rfl, hb1⟩)
    replace x2 := x2.below hb1
    replace hb := bto hb hb1
    go_wp2_with fail
    ((with_reducible refine (c1.of hG hb).mono ?_); rintro e w2 ⟨rfl, hb2⟩)
    replace x2 := x2.below hb2
    replace hb := bto hb hb2
    go_wp2_with fail
    ((with_reducible refine (c2.of hG hb).mono ?_); rintro e w3 ⟨rfl, hb3⟩)
    replace x2 := x2.below hb3
    replace hb := bto hb hb3
    clear hb1 hb2 hb3
    have f0 := x2.f0
    have f1 := x2.f1
    have c0 := x2.c0
    have c1 := x2.c1
    go_wp2_with fail
    have hy := x2.set (.string ⟨#[]⟩) (.string ⟨#[]⟩)
    have d0 := hy.c0
    have d1 := hy.c1
    refine bodyPost_ret (v := .tuple #[.agg #[.string ⟨#[]⟩, .string ⟨#[]⟩], .int .i64 3]) (by simp [results, Tryz.results40, go_sem, d0, d1]) rfl ?_
    exact ⟨rfl, below_set2 hb (Nat.le_refl _) _ _⟩

set_option maxHeartbeats 1000000 in
set_option maxRecDepth 100000 in
/-- the denominator is not positive -/
theorem fparse_d (s a b0 b n d : List UInt8) (sl : Bool) (e1 e2 : Int) (w : World) (hG : Glob w) (hs : s.length ≤ 65536) (hbt : sl = true → b = b0) (hbf : sl = false → b = [49])
    (cC : Ret 102 #[.string ⟨s.toArray⟩, .string ⟨#[47]⟩] (.tuple #[.string ⟨a.toArray⟩, .string ⟨b0.toArray⟩, .bool sl]))
    (c1 : Ret 103 #[.string ⟨a.toArray⟩] (.tuple #[.string ⟨n.toArray⟩, .int .i64 e1])) (c2 : Ret 103 #[.string ⟨b.toArray⟩] (.tuple #[.string ⟨d.toArray⟩, .int .i64 e2]))
    (z : Int) (h1' : (e1 != 0) = false) (h2' : (e2 != 0) = false) (c3 : Ret 86 #[.string ⟨d.toArray⟩, .string ⟨#[]⟩] (.int .i64 z)) (h3 : z ≤ 0) :
    Calls Tryz.prog 40 #[.string ⟨s.toArray⟩] w fun e w' => e = .returned (.tuple #[.agg #[.string ⟨#[]⟩, .string ⟨#[]⟩], .int .i64 3]) ∧ Below w.heap.size w w' := by
  have k0 : ¬ 65536 < s.length := by omega
  have k0' : decide (65536 < s.length) = false := decide_eq_false k0
  clear hs
  cases sl
  all_goals
    first | obtain rfl := hbf rfl | obtain rfl := hbt rfl
    clear hbt hbf
    have hb := below_alloc w (.cells #[.string ⟨#[]⟩, .string ⟨#[]⟩] 24)
    have x2 := FBox.new w (.string ⟨#[]⟩) (.string ⟨#[]⟩) 24
    go_enter Tryz.func40, Tryz.ntmps40
    go_wp2_with fail
    ((with_reducible refine (cC.of hG hb).mono ?_); rintro e w1 ⟨rfl, hb1⟩)
    replace x2 := x2.below hb1
    replace hb := bto hb hb1
    go_wp2_with fail
    ((with_reducible refine (c1.of hG hb).mono ?_); rintro e w2 ⟨rfl, hb2⟩)
    replace x2 := x2.below hb2
    replace hb := bto hb hb2
    go_wp2_with fail
    ((with_reducible refine (c2.of hG hb).mono ?_); rintro e w3 ⟨rfl, hb3⟩)
    replace x2 := x2.below hb3
    replace hb := bto hb hb3
    clear hb1 hb2 hb3
    go_wp2_with fail
    ((with_reducible refine (c3.of hG hb).mono ?_); rintro e w4 ⟨rfl, hb4⟩)
    replace x2 := x2.below hb4
    replace hb := bto hb hb4
    have f0 := x2.f0
    have f1 := x2.f1
    have c0 := x2.c0
    have c1 := x2.c1
    go_wp2_with fail
    have hy := x2.set (.string ⟨#[]⟩) (.string ⟨#[]⟩)
    have d0 := hy.c0
    have d1 := hy.c1
    refine bodyPost_ret (v := .tuple #[.agg #[.string ⟨#[]⟩, .string ⟨#[]⟩], .int .i64 3]) (by simp [results, Tryz.results40, go_sem, d0, d1]) rfl ?_
    exact ⟨rfl, below_set2 hb (Nat.le_refl _) _ _⟩

set_option maxHeartbeats 1000000 in
set_option maxRecDepth 100000 in
/-- the text is another -/
theorem fparse_no (s a b0 b n d : List UInt8) (sl : Bool) (e1 e2 : Int) (w : World) (hG : Glob w) (hs : s.length ≤ 65536) (hbt : sl = true → b = b0) (hbf : sl = false → b = [49])
    (cC : Ret 102 #[.string ⟨s.toArray⟩, .string ⟨#[47]⟩] (.tuple #[.string ⟨a.toArray⟩, .string ⟨b0.toArray⟩, .bool sl]))
    (c1 : Ret 103 #[.string ⟨a.toArray⟩] (.tuple #[.string ⟨n.toArray⟩, .int .i64 e1])) (c2 : Ret 103 #[.string ⟨b.toArray⟩] (.tuple #[.string ⟨d.toArray⟩, .int .i64 e2]))
    (z : Int) (h1' : (e1 != 0) = false) (h2' : (e2 != 0) = false) (c3 : Ret 86 #[.string ⟨d.toArray⟩, .string ⟨#[]⟩] (.int .i64 z)) (h3' : decide (z ≤ 0) = false) (N D t : List UInt8)
    (c4 : Ret 87 #[.string ⟨n.toArray⟩, .string ⟨d.toArray⟩] (Value.agg #[Value.string ⟨List.toArray N⟩, Value.string ⟨List.toArray D⟩])) (c5 : Ret 42 #[(Value.agg #[Value.string ⟨List.toArray N⟩, Value.string ⟨List.toArray D⟩])] (.string ⟨t.toArray⟩)) (h4 : (t == s) = false) :
    Calls Tryz.prog 40 #[.string ⟨s.toArray⟩] w fun e w' => e = .returned (.tuple #[.agg #[.string ⟨#[]⟩, .string ⟨#[]⟩], .int .i64 3]) ∧ Below w.heap.size w w' := by
  have k0 : ¬ 65536 < s.length := by omega
  have k0' : decide (65536 < s.length) = false := decide_eq_false k0
  clear hs
  cases sl
  all_goals
    first | obtain rfl := hbf rfl | obtain rfl := hbt rfl
    clear hbt hbf
    have hb := below_alloc w (.cells #[.string ⟨#[]⟩, .string ⟨#[]⟩] 24)
    have x2 := FBox.new w (.string ⟨#[]⟩) (.string ⟨#[]⟩) 24
    go_enter Tryz.func40, Tryz.ntmps40
    go_wp2_with fail
    ((with_reducible refine (cC.of hG hb).mono ?_); rintro e w1 ⟨rfl, hb1⟩)
    replace x2 := x2.below hb1
    replace hb := bto hb hb1
    go_wp2_with fail
    ((with_reducible refine (c1.of hG hb).mono ?_); rintro e w2 ⟨rfl, hb2⟩)
    replace x2 := x2.below hb2
    replace hb := bto hb hb2
    go_wp2_with fail
    ((with_reducible refine (c2.of hG hb).mono ?_); rintro e w3 ⟨rfl, hb3⟩)
    replace x2 := x2.below hb3
    replace hb := bto hb hb3
    clear hb1 hb2 hb3
    go_wp2_with fail
    ((with_reducible refine (c3.of hG hb).mono ?_); rintro e w4 ⟨rfl, hb4⟩)
    replace x2 := x2.below hb4
    replace hb := bto hb hb4
    go_wp2_with fail
    ((with_reducible refine (c4.of hG hb).mono ?_); rintro e w5 ⟨rfl, hb5⟩)
    replace x2 := x2.below hb5
    replace hb := bto hb hb5
    replace x2 := x2.below (below_alloc w5 (.cells #[.string ⟨N.toArray⟩, .string ⟨D.toArray⟩] 24))
    replace hb := bto hb (below_alloc w5 (.cells #[.string ⟨N.toArray⟩, .string ⟨D.toArray⟩] 24))
    have x11 := FBox.new w5 (.string ⟨N.toArray⟩) (.string ⟨D.toArray⟩) 24
    have g0 := x11.c0
    have g1 := x11.c1
    go_wp2_with fail
    ((with_reducible refine (c5.of hG hb).mono ?_); rintro e w6 ⟨rfl, hb6⟩)
    replace x2 := x2.below hb6
    replace hb := bto hb hb6
    clear g0 g1
    replace x11 := x11.below hb6
    have g0 := x11.c0
    have g1 := x11.c1
    have f0 := x2.f0
    have f1 := x2.f1
    have c0 := x2.c0
    have c1 := x2.c1
    go_wp2_with fail
    have hy := x2.set (.string ⟨#[]⟩) (.string ⟨#[]⟩)
    have d0 := hy.c0
    have d1 := hy.c1
    refine bodyPost_ret (v := .tuple #[.agg #[.string ⟨#[]⟩, .string ⟨#[]⟩], .int .i64 3]) (by simp [results, Tryz.results40, go_sem, d0, d1]) rfl ?_
    exact ⟨rfl, below_set2 hb (Nat.le_refl _) _ _⟩

set_option maxHeartbeats 1000000 in
set_option maxRecDepth 100000 in
/-- the text is this -/
theorem fparse_ok (s a b0 b n d : List UInt8) (sl : Bool) (e1 e2 : Int) (w : World) (hG : Glob w) (hs : s.length ≤ 65536) (hbt : sl = true → b = b0) (hbf : sl = false → b = [49])
    (cC : Ret 102 #[.string ⟨s.toArray⟩, .string ⟨#[47]⟩] (.tuple #[.string ⟨a.toArray⟩, .string ⟨b0.toArray⟩, .bool sl]))
    (c1 : Ret 103 #[.string ⟨a.toArray⟩] (.tuple #[.string ⟨n.toArray⟩, .int .i64 e1])) (c2 : Ret 103 #[.string ⟨b.toArray⟩] (.tuple #[.string ⟨d.toArray⟩, .int .i64 e2]))
    (z : Int) (h1' : (e1 != 0) = false) (h2' : (e2 != 0) = false) (c3 : Ret 86 #[.string ⟨d.toArray⟩, .string ⟨#[]⟩] (.int .i64 z)) (h3' : decide (z ≤ 0) = false) (N D t : List UInt8)
    (c4 : Ret 87 #[.string ⟨n.toArray⟩, .string ⟨d.toArray⟩] (Value.agg #[Value.string ⟨List.toArray N⟩, Value.string ⟨List.toArray D⟩])) (c5 : Ret 42 #[(Value.agg #[Value.string ⟨List.toArray N⟩, Value.string ⟨List.toArray D⟩])] (.string ⟨t.toArray⟩)) (h4 : (t == s) = true) :
    Calls Tryz.prog 40 #[.string ⟨s.toArray⟩] w fun e w' => e = .returned (.tuple #[.agg #[.string ⟨N.toArray⟩, .string ⟨D.toArray⟩], .int .i64 0]) ∧ Below w.heap.size w w' := by
  have k0 : ¬ 65536 < s.length := by omega
  have k0' : decide (65536 < s.length) = false := decide_eq_false k0
  clear hs
  cases sl
  all_goals
    first | obtain rfl := hbf rfl | obtain rfl := hbt rfl
    clear hbt hbf
    have hb := below_alloc w (.cells #[.string ⟨#[]⟩, .string ⟨#[]⟩] 24)
    have x2 := FBox.new w (.string ⟨#[]⟩) (.string ⟨#[]⟩) 24
    go_enter Tryz.func40, Tryz.ntmps40
    go_wp2_with fail
    ((with_reducible refine (cC.of hG hb).mono ?_); rintro e w1 ⟨rfl, hb1⟩)
    replace x2 := x2.below hb1
    replace hb := bto hb hb1
    go_wp2_with fail
    ((with_reducible refine (c1.of hG hb).mono ?_); rintro e w2 ⟨rfl, hb2⟩)
    replace x2 := x2.below hb2
    replace hb := bto hb hb2
    go_wp2_with fail
    ((with_reducible refine (c2.of hG hb).mono ?_); rintro e w3 ⟨rfl, hb3⟩)
    replace x2 := x2.below hb3
    replace hb := bto hb hb3
    clear hb1 hb2 hb3
    go_wp2_with fail
    ((with_reducible refine (c3.of hG hb).mono ?_); rintro e w4 ⟨rfl, hb4⟩)
    replace x2 := x2.below hb4
    replace hb := bto hb hb4
    go_wp2_with fail
    ((with_reducible refine (c4.of hG hb).mono ?_); rintro e w5 ⟨rfl, hb5⟩)
    replace x2 := x2.below hb5
    replace hb := bto hb hb5
    replace x2 := x2.below (below_alloc w5 (.cells #[.string ⟨N.toArray⟩, .string ⟨D.toArray⟩] 24))
    replace hb := bto hb (below_alloc w5 (.cells #[.string ⟨N.toArray⟩, .string ⟨D.toArray⟩] 24))
    have x11 := FBox.new w5 (.string ⟨N.toArray⟩) (.string ⟨D.toArray⟩) 24
    have g0 := x11.c0
    have g1 := x11.c1
    go_wp2_with fail
    ((with_reducible refine (c5.of hG hb).mono ?_); rintro e w6 ⟨rfl, hb6⟩)
    replace x2 := x2.below hb6
    replace hb := bto hb hb6
    clear g0 g1
    replace x11 := x11.below hb6
    have g0 := x11.c0
    have g1 := x11.c1
    have f0 := x2.f0
    have f1 := x2.f1
    have c0 := x2.c0
    have c1 := x2.c1
    go_wp2_with fail
    have hy := x2.set (.string ⟨N.toArray⟩) (.string ⟨D.toArray⟩)
    have d0 := hy.c0
    have d1 := hy.c1
    refine bodyPost_ret (v := .tuple #[.agg #[.string ⟨N.toArray⟩, .string ⟨D.toArray⟩], .int .i64 0]) (by simp [results, Tryz.results40, go_sem, d0, d1]) rfl ?_
    exact ⟨rfl, below_set2 hb (Nat.le_refl _) _ _⟩

set_option maxHeartbeats 1000000 in
set_option maxRecDepth 100000 in
theorem fparse_long (s : List UInt8) (w : World) (h : 65536 < s.length) :
    Calls Tryz.prog 40 #[.string ⟨s.toArray⟩] w fun e w' => e = .returned (.tuple #[.agg #[.string ⟨#[]⟩, .string ⟨#[]⟩], .int .i64 4]) ∧ Below w.heap.size w w' := by
  have k0' : decide (65536 < s.length) = true := decide_eq_true h
  have hb := below_alloc w (.cells #[.string ⟨#[]⟩, .string ⟨#[]⟩] 24)
  go_enter Tryz.func40, Tryz.ntmps40
  go_wp2_with fail
  refine bodyPost_ret (v := .tuple #[.agg #[.string ⟨#[]⟩, .string ⟨#[]⟩], .int .i64 4]) (by simp [results, Tryz.results40, go_sem]) rfl ?_
  exact ⟨rfl, hb⟩

theorem bd_parse (s : List UInt8) (K : Nat) (hK : s.length + 3 ≤ K) (h0 : 0 < val (parseI (belowOf s)).1) : Bd K (Rat.divInt (val (parseI (Lib.cut s [47]).1).1) (val (parseI (belowOf s)).1)) := by
  have h1 := parseI_len (Lib.cut s [47]).1
  have h2 := parseI_len (belowOf s)
  have h3 := (cut47_len s).1
  have h4 := belowOf_len s
  exact bd_divInt (val_lt_of (by omega)) (val_lt_of (by omega)) (by omega)
theorem cut_lens {s : List UInt8} (hs : s.length ≤ 65536) : (Lib.cut s [47]).1.length ≤ 1000000 ∧ (belowOf s).length ≤ 1000000 ∧ (parseI (Lib.cut s [47]).1).1.length ≤ 1000000 ∧ (parseI (belowOf s)).1.length ≤ 1000000 := by
  have h1 := parseI_len (Lib.cut s [47]).1
  have h2 := parseI_len (belowOf s)
  have h3 := (cut47_len s).1
  have h4 := belowOf_len s
  omega
theorem bne_of {a b : Int} (h : (a == b) = true) : (a != b) = false := by simp [bne, h]
theorem bne_of' {a b : Int} (h : (a == b) = false) : (a != b) = true := by simp [bne, h]
theorem bnel_of {a b : List UInt8} (h : (a == b) = true) : (a != b) = false := by simp [bne, h]
theorem bnel_of' {a b : List UInt8} (h : (a == b) = false) : (a != b) = true := by simp [bne, h]
theorem rParse_some {s : List UInt8} {q : Rat} (hs : s.length ≤ 65536) (h : parseF s = some q) : Ret 40 #[.string ⟨s.toArray⟩] (.tuple #[(Value.agg #[Value.string ⟨List.toArray (fN q)⟩, Value.string ⟨List.toArray (fD q)⟩]), .int .i64 0]) := fun w hG => by
  unfold parseF at h
  split at h
  · next hc =>
    obtain ⟨h1, h2, h3, h4⟩ := hc
    injection h with h
    obtain ⟨l1, l2, l3, l4⟩ := cut_lens hs
    have bd := bd_parse s 70000 (by omega) h3
    have cz := riCompare (l := (parseI (belowOf s)).1) (l' := []) (c := 1) (Nat.le_trans l4 (by decide)) (by decide) (by rw [cmp0, if_neg (by omega), if_pos h3])
    have cm := rMade l3 l4 (by omega)
    have cp := rPrint (isq_fr bd (by omega))
    rw [h] at cm cp h4
    have b1 : ((parseI (Lib.cut s [47]).1).2 == 0) = true := by rw [beq_iff_eq]; exact h1
    have b2 : ((parseI (belowOf s)).2 == 0) = true := by rw [beq_iff_eq]; exact h2
    have b3 : (printQ q == s) = true := by rw [beq_iff_eq]; exact h4
    exact fparse_ok s _ _ (belowOf s) _ _ _ _ _ w hG hs (belowOf_t s) (belowOf_f s) (rCut s (by omega)) (riParse _ l1) (riParse _ l2) 1 (bne_of b1) (bne_of b2) cz rfl _ _ _ cm cp b3
  · cases h
theorem rParse_none {s : List UInt8} (hs : s.length ≤ 65536) (h : parseF s = none) : Ret 40 #[.string ⟨s.toArray⟩] (.tuple #[.agg #[.string ⟨#[]⟩, .string ⟨#[]⟩], .int .i64 3]) := fun w hG => by
  unfold parseF at h
  split at h
  · cases h
  · next hc =>
    obtain ⟨l1, l2, l3, l4⟩ := cut_lens hs
    by_cases h1 : (parseI (Lib.cut s [47]).1).2 = 0
    · have b1 : ((parseI (Lib.cut s [47]).1).2 == 0) = true := by rw [beq_iff_eq]; exact h1
      by_cases h2 : (parseI (belowOf s)).2 = 0
      · have b2 : ((parseI (belowOf s)).2 == 0) = true := by rw [beq_iff_eq]; exact h2
        obtain ⟨z, hz⟩ : ∃ z, cmpZ (val (parseI (belowOf s)).1) (val []) = z := ⟨_, rfl⟩
        have cz := riCompare (l := (parseI (belowOf s)).1) (l' := []) (Nat.le_trans l4 (by decide)) (by decide) hz
        by_cases h3 : 0 < val (parseI (belowOf s)).1
        · have hz1 : z = 1 := by rw [← hz, cmp0, if_neg (by omega), if_pos h3]
          have bd := bd_parse s 70000 (by omega) h3
          have cm := rMade l3 l4 (by omega)
          have cp := rPrint (isq_fr bd (by omega))
          have b3 : (printQ (Rat.divInt (val (parseI (Lib.cut s [47]).1).1) (val (parseI (belowOf s)).1)) == s) = false := by
            rw [beq_eq_false_iff_ne]; exact fun e => hc ⟨h1, h2, h3, e⟩
          exact fparse_no s _ _ (belowOf s) _ _ _ _ _ w hG hs (belowOf_t s) (belowOf_f s) (rCut s (by omega)) (riParse _ l1) (riParse _ l2) z (bne_of b1) (bne_of b2) cz (decide_eq_false (by omega)) _ _ _ cm cp b3
        · have hz1 : z ≤ 0 := by rw [← hz, cmp0]; split <;> (try split) <;> omega
          exact fparse_d s _ _ (belowOf s) _ _ _ _ _ w hG hs (belowOf_t s) (belowOf_f s) (rCut s (by omega)) (riParse _ l1) (riParse _ l2) z (bne_of b1) (bne_of b2) cz hz1
      · have b2 : ((parseI (belowOf s)).2 == 0) = false := by rw [beq_eq_false_iff_ne]; exact h2
        exact fparse_e2 s _ _ (belowOf s) _ _ _ _ _ w hG hs (belowOf_t s) (belowOf_f s) (rCut s (by omega)) (riParse _ l1) (riParse _ l2) (bne_of b1) (bne_of' b2)
    · have b1 : ((parseI (Lib.cut s [47]).1).2 == 0) = false := by rw [beq_eq_false_iff_ne]; exact h1
      exact fparse_e1 s _ _ (belowOf s) _ _ _ _ _ w hG hs (belowOf_t s) (belowOf_f s) (rCut s (by omega)) (riParse _ l1) (riParse _ l2) (bne_of' b1)

end Go.Proofs.YtdbmjbcgcajojaaGreatDoor
