/- What package integer asks of Go's library, in plain words over lists of bytes. -/
import Derived.Test.YtjhafnnfkaejgaaGreatDoorMag
import Derived.Test.YtjhafnnfkaejgaaGreatDoorShelf
import Derived.Lib.LaidTab
import Derived.Lib.ItoaMem
import Derived.Lib.SmallJoins
namespace Go.Proofs.YtjhafnnfkaejgaaGreatDoor
open Go.RowKit Num

/-! The plain side. -/
theorem fmt_dec (n : Nat) : fmt n = Lib.decDigits n := by
  induction n using Nat.strongRecOn with
  | ind n ih =>
    by_cases h : n < 10
    · rw [fmt_digit n h, Lib.decDigits_one h]; unfold dg; rw [Nat.mod_eq_of_lt h]
    · rw [Lib.decDigits, dif_neg h, ← ih _ (by omega)]
      conv => lhs; rw [show n = 10 * (n / 10) + n % 10 by omega]
      rw [fmt_step _ _ (by omega) (by omega)]
      unfold dg
      rw [Nat.mod_mod]
theorem parseM (l : List UInt8) (acc : Nat) (hd : l.all isDig = true) (hb : acc * 10 ^ l.length + nat l < 1000000000) : Lib.parseUintM (2 ^ 64 - 1) acc l = .ok (acc * 10 ^ l.length + nat l) := by
  induction l generalizing acc with
  | nil => simp [Lib.parseUintM, nat]
  | cons c l ih =>
    simp only [List.all_cons, Bool.and_eq_true] at hd
    have hc := hd.1
    simp [isDig] at hc
    have hb' := hb
    rw [nat_cons, List.length_cons, Nat.pow_succ] at hb'
    clear hb
    have hpos : 0 < 10 ^ l.length := Nat.pow_pos (by omega)
    have e : acc * (10 ^ l.length * 10) + ((c.toNat - 48) * 10 ^ l.length + nat l) = (acc * 10 + (c.toNat - 48)) * 10 ^ l.length + nat l := by
      rw [Nat.add_mul, Nat.mul_assoc acc 10, Nat.mul_comm 10, Nat.add_assoc]
    rw [e] at hb'
    have h1 : acc * 10 + (c.toNat - 48) ≤ (acc * 10 + (c.toNat - 48)) * 10 ^ l.length := Nat.le_mul_of_pos_right _ hpos
    rw [Lib.parseUintM, if_pos ⟨by omega, by omega⟩, if_neg (by omega), if_neg (by omega), ih _ hd.2 hb', nat_cons, List.length_cons, Nat.pow_succ 10 l.length, e]
theorem parse_ok (l : List UInt8) (h0 : l ≠ []) (hd : l.all isDig = true) (hl : l.length ≤ 9) : Lib.parseUintB 64 l = .ok (nat l) := by
  have h1 := nat_lt l hd
  have h2 : 10 ^ l.length ≤ 10 ^ 9 := Nat.pow_le_pow_right (by omega) hl
  have := parseM l 0 hd (by omega)
  simp only [Nat.zero_mul, Nat.zero_add] at this
  unfold Lib.parseUintB
  rw [if_neg h0, this]
def DIG : List UInt8 := [48, 49, 50, 51, 52, 53, 54, 55, 56, 57]
theorem dig_contains (b : UInt8) : DIG.contains b = isDig b := by
  unfold DIG isDig
  have h : ∀ n : Fin 256, ([48, 49, 50, 51, 52, 53, 54, 55, 56, 57] : List UInt8).contains (UInt8.ofNat n.1) = (decide (48 ≤ (UInt8.ofNat n.1).toNat) && decide ((UInt8.ofNat n.1).toNat ≤ 57)) := by decide +kernel
  have := h ⟨b.toNat, UInt8.toNat_lt b⟩
  rwa [UInt8.ofNat_toNat] at this
theorem dropWhile_nil_iff {α : Type} (p : α → Bool) (l : List α) : l.dropWhile p = [] ↔ l.all p = true := by
  induction l with
  | nil => simp
  | cons a l ih => rw [List.dropWhile_cons]; by_cases h : p a = true <;> simp_all
theorem dropWhile_head {α : Type} (p : α → Bool) (l : List α) (x : α) (r : List α) (h : l.dropWhile p = x :: r) : p x = false := by
  induction l with
  | nil => simp at h
  | cons a l ih =>
    rw [List.dropWhile_cons] at h
    by_cases hp : p a = true
    · rw [if_pos hp] at h; exact ih h
    · rw [if_neg hp] at h; injection h with h1 _; subst h1; simpa using hp
theorem trim_dig (l : List UInt8) : (Lib.trimS l DIG).isEmpty = l.all isDig := by
  have hc : (fun b : UInt8 => DIG.contains b) = isDig := funext dig_contains
  unfold Lib.trimS Lib.trimLeftS Lib.trimRightS
  rw [hc]
  rw [Bool.eq_iff_iff, List.isEmpty_iff, dropWhile_nil_iff]
  constructor
  · intro h
    cases hr : l.reverse.dropWhile isDig with
    | nil =>
      rw [dropWhile_nil_iff] at hr
      simpa using hr
    | cons x r =>
      have hx := dropWhile_head isDig _ _ _ hr
      rw [hr] at h
      simp [hx] at h
  · intro h
    have : l.reverse.dropWhile isDig = [] := by rw [dropWhile_nil_iff]; simpa using h
    simp [this]
theorem trim_zero (l : List UInt8) : Lib.trimLeftS l [48] = sig l := by
  unfold Lib.trimLeftS sig
  congr 1
  funext b
  rw [Bool.eq_iff_iff]; simp
theorem pre_neg (l : List UInt8) : Lib.hasPrefix l [45] = isNeg l := by
  cases l with
  | nil => rfl
  | cons a t =>
    simp only [Lib.hasPrefix, isNeg, List.isPrefixOf, List.head?_cons, Bool.and_true]
    rw [Bool.eq_iff_iff]; simp; exact eq_comm
theorem pre_rest (l : List UInt8) : Lib.trimPrefix l [45] = rest l := by
  unfold Lib.trimPrefix rest
  rw [pre_neg]
  simp
theorem repeat_zero (c : Nat) : Lib.repeatL [48] c = List.replicate c 48 := by
  induction c with
  | zero => rfl
  | succ c ih => rw [Lib.repeatL, ih, List.replicate_succ]; rfl

/-! The package-level variables that the library reads. -/
def Glob (w : World) : Prop := Lib.TabIs Tryz.prog w "internal/strconv.uint64pow10" .u64 Lib.pow10Tab ∧ ∃ m : Int, w.cell? ⟨0, 0, none⟩ = some (.int .i64 m)
theorem tab_below {w w' : World} {name : String} {k : IntKind} {zs : List Int} (h : Lib.TabIs Tryz.prog w name k zs) (hb : Below w.heap.size w w') : Lib.TabIs Tryz.prog w' name k zs := by
  unfold Lib.TabIs World.var? at *
  cases hg : Tryz.prog.globalNamed name with
  | none => simp [hg] at h
  | some g =>
    simp only [hg, Option.bind_some] at h ⊢
    have hlt : g < w.heap.size := by
      rcases Nat.lt_or_ge g w.heap.size with h' | h'
      · exact h'
      · rw [Array.getElem?_eq_none h'] at h; simp at h
    rw [hb.block g hlt]
    exact h
theorem Glob.below {w w' : World} (h : Glob w) (hb : Below w.heap.size w w') : Glob w' :=
  ⟨tab_below h.1 hb, h.2.elim fun m hm => ⟨m, (hb.cell (p := ⟨0, 0, none⟩) (World.block_lt_of_cell? w _ hm)).trans hm⟩⟩
theorem bdrewN {B : Nat} {a w : World} (h : Below B a w) (n : Nat) : Below B a (w.drewN n) := ⟨h.os, h.tape, h.output, h.size, h.block⟩
theorem bto {w w1 w2 : World} (h : Below w.heap.size w w1) (k : Below w1.heap.size w1 w2) : Below w.heap.size w w2 := h.trans (k.mono h.size)

/-! FormatUint. -/
theorem holds_zero0 (w : World) (T : TypeId) (nd : Nat) (hs : nd ≤ 24) : Sort.Holds (fun (b : UInt8) => Value.int .u8 (b.toNat : Int)) (w.alloc (.cells Lib.zeros24 T)) w.heap.size 0 (Array.replicate nd (0 : UInt8)) := fun j hj => by
  have hj' : j < nd := by simpa using hj
  refine ⟨?_, World.frozen?_alloc_new _ _ _ _⟩
  rw [World.cell?_alloc_new, Lib.zeros24_at _ (by omega), getElem!_pos _ j hj]
  simp
theorem below_putRow (w : World) (o : Obj) (dk : Array UInt8) (k : Nat) : Below w.heap.size w ((Sort.putRow (fun (b : UInt8) => Value.int .u8 (b.toNat : Int)) (w.alloc o) w.heap.size 0 dk).drewN k) := by
  rw [Sort.alloc_eq_grow]
  obtain ⟨os', _, e⟩ := Sort.putRow_grow_new (fun (b : UInt8) => Value.int .u8 (b.toNat : Int)) w #[o] w.heap.size 0 dk (Nat.le_refl _)
  rw [e]
  exact ⟨rfl, rfl, rfl, by simp [Sort.grow, World.drewN], fun i hi => Sort.heap_grow_old w os' hi⟩

set_option maxHeartbeats 2000000 in
set_option maxRecDepth 100000 in
theorem iformat_any (u : Nat) (hu : u < 18446744073709551616) (w : World) (hG : Glob w) :
    Calls Tryz.prog 121 #[.int .u64 u, .int .i64 10] w fun e w' => e = .returned (.string ⟨(fmt u).toArray⟩) ∧ Below w.heap.size w w' := by
  rw [fmt_dec]
  by_cases hi : u < 100
  · go_enter Tryz.func121, Tryz.ntmps121
    go_wp2_with (go_at_call 142; refine (Tryz.internal_strconv_small u hi _).mono ?_; rintro e w' ⟨rfl, rfl⟩)
    go_ret
    exact ⟨rfl, Below.refl _ _⟩
  · have hu1 : 1 ≤ u := by omega
    have hnd20 : Lib.nDigits u ≤ 20 := by have := Lib.numDigits_eq u hu1 hu; split at this <;> omega
    have hal : Tryz.prog.arrayLen 147 = 24 := by simp [Program.arrayLen, Tryz.underlying147]
    have hsl1 : ∀ W, (Instr.sliceAt 147 (.pointer (some ⟨w.heap.size, 0, none⟩)) none (some (.int .i64 (Lib.nDigits u : Int))) none).run Tryz.prog W = .ok (.slice (some ⟨w.heap.size, 0, none⟩) (Lib.nDigits u) 24) W := fun W => by
      rw [run_sliceAt_array_h W 147 ⟨w.heap.size, 0, none⟩ (by simp [Program.arrayLen, Program.elem, Tryz.underlying147]) .i64 (Lib.nDigits u : Int) (by omega) (by rw [hal]; omega)]
      go_simp
    have hH0 := holds_zero0 w 147 (Lib.nDigits u) (by omega)
    have hfmt := Tryz.internal_strconv_formatBase10 w.heap.size 0 24 u (Array.replicate (Lib.nDigits u) 0) (w.alloc (.cells Lib.zeros24 147)) hH0 (by rw [Array.size_replicate]; exact Lib.lt_pow_nDigits u) hu (by rw [Array.size_replicate]; omega)
    rw [Array.size_replicate] at hfmt
    have HH0 := Lib.hid hH0
    have HF := Lib.hid hfmt
    clear hH0 hal hfmt
    go_enter Tryz.func121, Tryz.ntmps121
    go_wp2_with (go_at_call 143; refine (Tryz.internal_strconv_numDigits u hu1 hu _ (Lib.tabIs_alloc hG.1 _)).mono ?_; rintro e w' ⟨rfl, rfl⟩)
    go_at_call 144
    refine HF.out.mono ?_
    rintro e w' ⟨rfl, k, v', dk, rfl, hF⟩
    have hcv : (convert 105 9 (.slice (some ⟨w.heap.size, 0, none⟩) (Lib.nDigits u) 24)).run Tryz.prog ((Sort.putRow (fun (b : UInt8) => Value.int .u8 (b.toNat : Int)) (w.alloc (.cells Lib.zeros24 147)) w.heap.size 0 dk).drewN k) = .ok (.string ⟨(Lib.decDigits u).toArray⟩) ((Sort.putRow (fun (b : UInt8) => Value.int .u8 (b.toNat : Int)) (w.alloc (.cells Lib.zeros24 147)) w.heap.size 0 dk).drewN k) := by
      have h := run_convert_bytes_back (P := Tryz.prog) ((Sort.putRow (fun (b : UInt8) => Value.int .u8 (b.toNat : Int)) (w.alloc (.cells Lib.zeros24 147)) w.heap.size 0 dk).drewN k) 105 9 5 ⟨w.heap.size, 0, none⟩ 24 (Lib.decDigits u) Tryz.underlying105 Tryz.underlying5 Tryz.underlying9 (fun j hj => by
        rw [Lib.row_is_numeral hF j hj, Lib.add_plain, World.cell?_drewN]
        exact Sort.cell?_putRow (fun (b : UInt8) => Value.int .u8 (b.toNat : Int)) _ w.heap.size 0 _ dk HH0.out (by rw [hF.size, Array.size_replicate]) j (by rw [hF.size]; rw [Lib.decDigits_length] at hj; exact hj))
      rw [Lib.decDigits_length] at h
      exact h
    go_wp2
    go_ret
    exact ⟨rfl, below_putRow _ _ _ _⟩
theorem format_any (u : Nat) (hu : u < 18446744073709551616) (w : World) (hG : Glob w) :
    Calls Tryz.prog 102 #[.int .u64 u, .int .i64 10] w fun e w' => e = .returned (.string ⟨(fmt u).toArray⟩) ∧ Below w.heap.size w w' := by
  go_enter Tryz.func102, Tryz.ntmps102
  go_wp2_with (go_at_call 121; refine (iformat_any u hu _ hG).mono ?_; rintro e w' ⟨rfl, hb⟩)
  go_ret
  exact ⟨rfl, hb⟩

/-! The others. -/
theorem cutPrefix_any (l : List UInt8) (w : World) :
    Calls Tryz.prog 115 #[.string ⟨l.toArray⟩, .string ⟨#[45]⟩] w fun e w' => e = .returned (.tuple #[.string ⟨(rest l).toArray⟩, .bool (isNeg l)]) ∧ w = w' := by
  refine (Tryz.strings_CutPrefix ⟨l.toArray⟩ ⟨#[45]⟩ w).mono ?_
  rintro e w' ⟨rfl, rfl⟩
  simp only [pre_rest, pre_neg, and_self]
theorem trim_any (l : List UInt8) (w : World) (hl : l.length ≤ 9223372036854775807) :
    Calls Tryz.prog 116 #[.string ⟨l.toArray⟩, .string ⟨#[48, 49, 50, 51, 52, 53, 54, 55, 56, 57]⟩] w fun e w' => (∃ t : List UInt8, t.isEmpty = l.all isDig ∧ e = .returned (.string ⟨t.toArray⟩)) ∧ Below w.heap.size w w' := by
  refine (Tryz.strings_Trim ⟨l.toArray⟩ ⟨#[48, 49, 50, 51, 52, 53, 54, 55, 56, 57]⟩ w (by simpa [ByteArray.size] using hl) (by decide) (ascii_of_all (by decide))).mono ?_
  rintro e w' ⟨rfl, hb⟩
  exact ⟨⟨_, trim_dig l, rfl⟩, hb⟩
theorem trimLeft_any (l : List UInt8) (w : World) :
    Calls Tryz.prog 117 #[.string ⟨l.toArray⟩, .string ⟨#[48]⟩] w fun e w' => e = .returned (.string ⟨(sig l).toArray⟩) ∧ Below w.heap.size w w' := by
  refine (Tryz.strings_TrimLeft ⟨l.toArray⟩ ⟨#[48]⟩ w (by decide) (ascii_of_all (by decide))).mono ?_
  rintro e w' ⟨rfl, hb⟩
  refine ⟨?_, hb⟩
  simp only [trim_zero]
theorem bytesWorld_below (w : World) (t : TypeId) (s : ByteArray) : Below w.heap.size w (Lib.bytesWorld w t s) := by
  exact Joins.below_bytesWorld _ w t s (Nat.le_refl _)
theorem parse_any (l : List UInt8) (w : World) (h0 : l ≠ []) (hd : l.all isDig = true) (hl : l.length ≤ 9) :
    Calls Tryz.prog 98 #[.string ⟨l.toArray⟩, .int .i64 10, .int .i64 64] w fun e w' => e = .returned (.tuple #[.int .u64 (nat l : Nat), .nilIface]) ∧ Below w.heap.size w w' := by
  refine (Tryz.strconv_ParseUint_10_at64_ok ⟨l.toArray⟩ (by simp [ByteArray.size]; omega) (nat l) (parse_ok l h0 hd hl) w).mono ?_
  rintro e w' ⟨rfl, h⟩
  refine ⟨rfl, ?_⟩
  rcases h with rfl | rfl
  · exact Below.refl _ _
  · exact bytesWorld_below _ _ _
theorem repeat_any (c : Nat) (w : World) (hc : c ≤ 1000) :
    Calls Tryz.prog 103 #[.string ⟨#[48]⟩, .int .i64 c] w fun e w' => e = .returned (.string ⟨(List.replicate c (48 : UInt8)).toArray⟩) ∧ Below w.heap.size w w' := by
  refine (Tryz.strings_Repeat ⟨#[48]⟩ c w (by omega) (by simp [ByteArray.size]; omega)).mono ?_
  rintro e w' ⟨rfl, hb⟩
  refine ⟨?_, hb⟩
  show Ending.returned (Value.string ⟨(Lib.repeatL [48] c).toArray⟩) = _
  rw [repeat_zero]
theorem repeat_int (z : Int) (c : Nat) (w : World) (hz : z = c) (hc : c ≤ 1000) :
    Calls Tryz.prog 103 #[.string ⟨#[48]⟩, .int .i64 z] w fun e w' => e = .returned (.string ⟨(List.replicate c (48 : UInt8)).toArray⟩) ∧ Below w.heap.size w w' := by
  subst hz; exact repeat_any c w hc
end Go.Proofs.YtjhafnnfkaejgaaGreatDoor
