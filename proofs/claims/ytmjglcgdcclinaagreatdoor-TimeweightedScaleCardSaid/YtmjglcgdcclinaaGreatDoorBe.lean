/- Be: shelfcut parsea parse -/
import Derived.Test.YtmjglcgdcclinaaGreatDoorBd
import Derived.Shelf.LaysM
import Derived.Shelf.Strings.Cut
import Derived.Shelf.Strings.Shaped
import Derived.Test.YtmjglcgdcclinaaGreatDoorProg
import Derived.Lib.IndexMore
/- strings.Cut, laid at this seat's numbers. -/
namespace Go.Proofs
open Go.Shelf
def Tryz.laysM145_ren : Go.Shelf.Ren := ⟨fun | 145 => 246 | 220 => 263 | 219 => 269 | 217 => 274 | 225 => 273 | 224 => 272 | 267 => 275 | 266 => 276 | 314 => 277 | n => n, fun | 9 => 9 | 4 => 4 | 59 => 250 | 3 => 3 | 5 => 5 | 46 => 199 | 146 => 244 | 51 => 243 | n => n, fun | 1 => 3 | n => n⟩
theorem Tryz.laysM145 : Go.Proofs.LaysM.n145 Tryz.prog Tryz.laysM145_ren := {
  mixed := by kernel_rfl
  f145 := Tryz.func246.trans (congrArg some (by kernel_rfl))
  f217 := Tryz.func274.trans (congrArg some (by kernel_rfl))
  f219 := Tryz.func269.trans (congrArg some (by kernel_rfl))
  f220 := Tryz.func263.trans (congrArg some (by kernel_rfl))
  f224 := Tryz.func272.trans (congrArg some (by kernel_rfl))
  f225 := Tryz.func273.trans (congrArg some (by kernel_rfl))
  f266 := Tryz.func276.trans (congrArg some (by kernel_rfl))
  f267 := Tryz.func275.trans (congrArg some (by kernel_rfl))
  f314 := Tryz.func277.trans (congrArg some (by kernel_rfl))
  t3 := Tryz.underlying3
  a3 := Tryz.isAgg3
  z3 := Tryz.sizeOf3
  v3 := Tryz.zeroValue3
  t4 := Tryz.underlying4
  a4 := Tryz.isAgg4
  z4 := Tryz.sizeOf4
  v4 := Tryz.zeroValue4
  t5 := Tryz.underlying5
  a5 := Tryz.isAgg5
  z5 := Tryz.sizeOf5
  v5 := Tryz.zeroValue5
  t9 := Tryz.underlying9
  a9 := Tryz.isAgg9
  z9 := Tryz.sizeOf9
  v9 := Tryz.zeroValue9
  t46 := Tryz.underlying199
  a46 := Tryz.isAgg199
  z46 := Tryz.sizeOf199
  v46 := Tryz.zeroValue199
  t51 := Tryz.underlying243
  a51 := Tryz.isAgg243
  z51 := Tryz.sizeOf243
  v51 := Tryz.zeroValue243
  t59 := Tryz.underlying250
  a59 := Tryz.isAgg250
  z59 := Tryz.sizeOf250
  v59 := Tryz.zeroValue250
  t146 := Tryz.underlying244
  a146 := Tryz.isAgg244
  z146 := Tryz.sizeOf244
  v146 := Tryz.zeroValue244
  g1 := by kernel_rfl
  i3 := by kernel_rfl
  i4 := by kernel_rfl
  i5 := by kernel_rfl
  i9 := by kernel_rfl
  i46 := by kernel_rfl
  i51 := by kernel_rfl
  i59 := by kernel_rfl
  i146 := by kernel_rfl
  m1 := by kernel_rfl
  s1_3 := fun w h => Go.Proofs.cell_of_shapedOpen_int (zero := #[.int .i64 0]) (t := 3) h (of_decide_eq_true (by kernel_rfl)) (by kernel_rfl) rfl (by kernel_rfl) (by kernel_rfl) Tryz.underlying3 }
open Go.RowKit Go.Lib in
theorem Tryz.strings_Cut_shaped (s sep : ByteArray) (w : World) (h : w.ShapedOpen Tryz.prog) (hs : s.size < 4294967281) :
    Calls Tryz.prog 246 #[.string s, .string sep] w fun e w' => e = .returned (.tuple #[.string ⟨(Lib.cut s.data.toList sep.data.toList).1.toArray⟩, .string ⟨(Lib.cut s.data.toList sep.data.toList).2.1.toArray⟩, .bool (Lib.cut s.data.toList sep.data.toList).2.2]) ∧ ∃ n, w' = w.drewN n := Any.strings_Cut_shaped Tryz.laysM145 s sep w h hs
end Go.Proofs
/- Plain: the texts of fractions. -/
namespace Go.Proofs.YtmjglcgdcclinaaGreatDoor
open Num

theorem index47_none : ∀ a : List UInt8, 47 ∉ a → Lib.index a [47] = -1
  | [], _ => rfl
  | x :: a, h => by
    have h1 : ¬ (47 = x) := fun e => h (by rw [e]; exact List.mem_cons_self)
    have ih := index47_none a (fun e => h (List.mem_cons_of_mem _ e))
    unfold Lib.index
    simp [h1, ih]
theorem index47_at : ∀ a b : List UInt8, 47 ∉ a → Lib.index (a ++ 47 :: b) [47] = (a.length : Int)
  | [], b, _ => by unfold Lib.index; simp
  | x :: a, b, h => by
    have h1 : ¬ (47 = x) := fun e => h (by rw [e]; exact List.mem_cons_self)
    have ih := index47_at a b (fun e => h (List.mem_cons_of_mem _ e))
    rw [List.cons_append]
    unfold Lib.index
    rw [ih]
    have h2 : ((a.length : Int) == -1) = false := by rw [beq_eq_false_iff_ne]; omega
    simp [h1, h2]
theorem cut47_none {a : List UInt8} (h : 47 ∉ a) : Lib.cut a [47] = (a, [], false) := by
  unfold Lib.cut; rw [index47_none a h, if_neg (by decide)]
theorem cut47_at {a : List UInt8} (b : List UInt8) (h : 47 ∉ a) : Lib.cut (a ++ 47 :: b) [47] = (a, b, true) := by
  unfold Lib.cut; rw [index47_at a b h, if_pos (by omega), Int.toNat_natCast]
  simp
theorem cut47_len (s : List UInt8) : (Lib.cut s [47]).1.length ≤ s.length ∧ (Lib.cut s [47]).2.1.length ≤ s.length := by
  unfold Lib.cut; split
  · exact ⟨by rw [List.length_take]; omega, by rw [List.length_drop]; omega⟩
  · exact ⟨Nat.le_refl _, Nat.zero_le _⟩
theorem val_printZ (z : Int) : val (printZ z) = z := by
  unfold printZ; split
  · next h => rw [h]; decide
  · exact val_canon z
theorem printL_printZ (z : Int) : printL (printZ z) = printZ z := by
  have : printL (printZ z) = if val (printZ z) = 0 then [48] else canon (val (printZ z)) := rfl
  rw [this, val_printZ]; rfl
theorem no47_dec (n : Nat) : (47 : UInt8) ∉ dec n := fun h => by
  have := List.all_eq_true.1 (dec_digs n) 47 h
  exact absurd this (by decide)
theorem no47_canon (z : Int) : (47 : UInt8) ∉ canon z := by
  unfold canon; split
  · intro h
    rcases List.mem_cons.1 h with h | h
    · exact absurd h (by decide)
    · exact no47_dec _ h
  · exact no47_dec _
theorem no47_printZ (z : Int) : (47 : UInt8) ∉ printZ z := by
  unfold printZ; split
  · decide
  · exact no47_canon z
theorem parseI_printZ {z : Int} (h : (printZ z).length ≤ 65536) : parseI (printZ z) = (canon z, 0) := by
  unfold parseI; rw [if_neg (by omega), if_pos (printL_printZ z), val_printZ]
/-- the denominator's text -/
def belowOf (s : List UInt8) : List UInt8 := if (Lib.cut s [47]).2.2 then (Lib.cut s [47]).2.1 else [49]
theorem belowOf_t (s : List UInt8) (h : (Lib.cut s [47]).2.2 = true) : belowOf s = (Lib.cut s [47]).2.1 := by unfold belowOf; rw [if_pos h]
theorem belowOf_f (s : List UInt8) (h : (Lib.cut s [47]).2.2 = false) : belowOf s = [49] := by unfold belowOf; rw [if_neg (by rw [h]; decide)]
/-- what Parse finds -/
def parseF (s : List UInt8) : Option Rat :=
  if (parseI (Lib.cut s [47]).1).2 = 0 ∧ (parseI (belowOf s)).2 = 0 ∧ 0 < val (parseI (belowOf s)).1 ∧ printQ (Rat.divInt (val (parseI (Lib.cut s [47]).1).1) (val (parseI (belowOf s)).1)) = s then
    some (Rat.divInt (val (parseI (Lib.cut s [47]).1).1) (val (parseI (belowOf s)).1)) else none
theorem parseF_print {s : List UInt8} {q : Rat} (h : parseF s = some q) : printQ q = s := by
  unfold parseF at h
  split at h
  · next hc => injection h with h; rw [← h]; exact hc.2.2.2
  · cases h
theorem parseF_of {s : List UInt8} {q : Rat} (h1 : (parseI (Lib.cut s [47]).1) = (canon q.num, 0)) (h2 : parseI (belowOf s) = (canon (q.den : Int), 0)) (h3 : printQ q = s) : parseF s = some q := by
  have hz := q.den_nz
  unfold parseF
  rw [h1, h2]
  simp only [val_canon, Rat.num_divInt_den]
  rw [if_pos ⟨trivial, trivial, by omega, h3⟩]
theorem parseF_printQ {q : Rat} (h : (printQ q).length ≤ 65536) : parseF (printQ q) = some q := by
  by_cases hd : q.den = 1
  · have e : printQ q = printZ q.num := by unfold printQ; rw [if_pos hd]
    rw [e] at h
    have hc := cut47_none (no47_printZ q.num)
    refine parseF_of ?_ ?_ rfl
    · rw [e, hc]; exact parseI_printZ h
    · unfold belowOf; rw [e, hc, hd]; exact (by decide : parseI [49] = (canon ((1 : Nat) : Int), 0))
  · have e : printQ q = printZ q.num ++ 47 :: printZ (q.den : Int) := by unfold printQ; rw [if_neg hd]
    have hl : (printZ q.num).length + ((printZ (q.den : Int)).length + 1) ≤ 65536 := by rw [e] at h; simpa using h
    have hc := cut47_at (printZ (q.den : Int)) (no47_printZ q.num)
    refine parseF_of ?_ ?_ rfl
    · rw [e, hc]; exact parseI_printZ (by omega)
    · unfold belowOf; rw [e, hc]; exact parseI_printZ (by omega)
theorem parseI_len (s : List UInt8) : (parseI s).1.length ≤ s.length + 1 := by
  unfold parseI; split
  · simp
  · split
    · exact canon_len_le _ _ (val_lt s)
    · simp
theorem belowOf_len (s : List UInt8) : (belowOf s).length ≤ s.length + 1 := by
  unfold belowOf; split
  · have := (cut47_len s).2; omega
  · simp
theorem printQ_len {q : Rat} {k : Nat} (h : Bd k q) : (printQ q).length ≤ 2 * k + 5 := by
  have h1 : ∀ z : Int, z.natAbs < 10 ^ k → (printZ z).length ≤ k + 2 := fun z hz => by
    unfold printZ; split
    · simp
    · have := canon_len_le z k hz; omega
  have a := h1 q.num h.1
  have b := h1 (q.den : Int) (by simpa using h.2)
  unfold printQ; split
  · omega
  · simp; omega
end Go.Proofs.YtmjglcgdcclinaaGreatDoor
/- Package fraction: Parse. -/
namespace Go.Proofs.YtmjglcgdcclinaaGreatDoor
open Go.RowKit Num

theorem rCut (s : List UInt8) (hs : s.length ≤ 1000000) : Ret 246 #[.string ⟨s.toArray⟩, .string ⟨#[47]⟩] (.tuple #[.string ⟨(Lib.cut s [47]).1.toArray⟩, .string ⟨(Lib.cut s [47]).2.1.toArray⟩, .bool (Lib.cut s [47]).2.2]) := fun w hG => by
  obtain ⟨m, hm⟩ := hG.2
  have h := Any.strings_Cut { Tryz.laysM145 with } ⟨s.toArray⟩ ⟨#[47]⟩ m w (by show s.toArray.size < _; simp; omega) hm
  exact h.mono fun e w' ⟨he, n, hw⟩ => by
    subst hw
    exact ⟨he, bdrewN (Below.refl _ _) n⟩
theorem rMade {l l' : List UInt8} (hl : l.length ≤ 1000000) (hl' : l'.length ≤ 1000000) (h0 : val l' ≠ 0) : Ret 99 #[.string ⟨l.toArray⟩, .string ⟨l'.toArray⟩] (Value.agg #[Value.string ⟨List.toArray (fN (Rat.divInt (val l) (val l')))⟩, Value.string ⟨List.toArray (fD (Rat.divInt (val l) (val l')))⟩]) := fun w hG => made_any l l' w hl hl' hG h0

theorem bd_parse (s : List UInt8) (K : Nat) (hK : s.length + 3 ≤ K) (h0 : 0 < val (parseI (belowOf s)).1) : Bd K (Rat.divInt (val (parseI (Lib.cut s [47]).1).1) (val (parseI (belowOf s)).1)) := by
  have h1 := parseI_len (Lib.cut s [47]).1
  have h2 := parseI_len (belowOf s)
  have h3 := (cut47_len s).1
  have h4 := belowOf_len s
  exact bd_divInt (val_lt_of (by omega)) (val_lt_of (by omega)) (by omega)
theorem cut_lens {s : List UInt8} (hs : s.length ≤ 65536) : (Lib.cut s [47]).1.length ≤ 1000000 ∧ (belowOf s).length ≤ 1000000 ∧ (parseI (Lib.cut s [47]).1).1.length ≤ 1000000 ∧ (parseI (belowOf s)).1.length ≤ 1000000 := by
  have h1 := parseI_len (Lib.cut s [47]).1
  have h2 := parseI_len (belowOf s)
  have h3 := (cut47_len s).1
  have h4 := belowOf_len s
  omega
theorem bne_of {a b : Int} (h : (a == b) = true) : (a != b) = false := by simp [bne, h]
theorem bne_of' {a b : Int} (h : (a == b) = false) : (a != b) = true := by simp [bne, h]
theorem bnel_of {a b : List UInt8} (h : (a == b) = true) : (a != b) = false := by simp [bne, h]
theorem bnel_of' {a b : List UInt8} (h : (a == b) = false) : (a != b) = true := by simp [bne, h]
end Go.Proofs.YtmjglcgdcclinaaGreatDoor
