/- Ca: jmag rcut rdig refa refb refc refd refe reff refg refh -/
import Derived.Test.YtgnppdkeiihlfaaGreatDoorFBk
import Derived.Laws.Cover1
import Derived.IntWalk
/- Rows of int, as XMag has them of uint64. -/
namespace Go.Proofs.YtgnppdkeiihlfaaGreatDoor
open Go.RowKit Num
abbrev J (l : List Nat) : List Value := l.map fun (x : Nat) => Value.int .i64 (x : Int)
theorem JU_one (l : List Nat) : ∀ u ∈ J l, u.oneCell' = true := by
  intro u hu; simp at hu; obtain ⟨q, _, rfl⟩ := hu; rfl
section
variable {w w' : World} {base n c : Nat} {A : Option Addr} {l : List Nat} {e : TypeId}
theorem jown_len (h : w.ownsRow base e 1 (.slice A n c) n (J l)) : l.length = n := by
  have := h.1; simpa using this
theorem jown_cap (h : w.ownsRow base e 1 (.slice A n c) n (J l)) : n ≤ c ∧ c ≤ maxLen := by
  rcases h.2 with ⟨hv, hn⟩ | ⟨g, cap, cur, hv, _, _, h1, h2, _⟩
  · injection hv with _ h1 h2; subst h1 h2; exact ⟨by omega, by unfold maxLen; omega⟩
  · injection hv with _ _ h3; subst h3; exact ⟨h1, h2⟩
theorem jown_at {k : Nat} (h : w.ownsRow base e 1 (.slice A n c) n (J l)) (hk : k < n) :
    ∃ (g x : Nat), A = some ⟨g, 0, none⟩ ∧ l[k]? = some x ∧ base ≤ g ∧ g < w.heap.size ∧ w.cell? ⟨g, k, none⟩ = some (.int .i64 (x : Int)) ∧ w.frozen? ⟨g, k, none⟩ = false := by
  have hl := jown_len h
  rcases h.2 with ⟨_, hn⟩ | ⟨g, cap, cur, hv, hb, hh, _⟩
  · omega
  · injection hv with h1 _ h3
    subst h1 h3
    refine ⟨g, l[k]'(by omega), rfl, List.getElem?_eq_getElem (by omega), hb, ?_, ?_, h.frozenAt k⟩
    · exact (Array.getElem?_eq_some_iff.1 hh).1
    · rw [h.cellAt k (by omega)]
      simp [J, List.getElem?_eq_getElem (show k < l.length by omega)]
theorem jown_take (h : w.ownsRow base e 1 (.slice A n c) n (J l)) {k : Nat} (hk : k ≤ n) (hA : A ≠ none) : w.ownsRow base e 1 (.slice A k c) k (J (l.take k)) := by
  have hl := jown_len h
  refine ⟨by simp; omega, ?_⟩
  rcases h.2 with ⟨hv, _⟩ | ⟨g, cap, cur, hv, hb1, hh, h1, h2, h3, h4⟩
  · injection hv with h5; exact absurd h5 hA
  · injection hv with h5 _ h6
    subst h5 h6
    refine .inr ⟨g, c, cur, rfl, hb1, hh, by omega, h2, h3, ?_⟩
    rw [show k * 1 = min k (n * 1) by omega, ← List.take_take, h4]
    simp
end
def JRow (w : World) (g : Nat) (xs : List Nat) : Prop := w.heap[g]? = some (.cells (J xs).toArray 3 (0, 0))
section
variable {w w' : World} {g : Nat} {xs : List Nat}
theorem JRow.lt (h : JRow w g xs) : g < w.heap.size := (Array.getElem?_eq_some_iff.1 h).1
theorem JRow.cell (h : JRow w g xs) {k x : Nat} (hx : xs[k]? = some x) : w.cell? ⟨g, k, none⟩ = some (.int .i64 (x : Int)) := by
  rw [blk_cell h k]; simp [hx]
theorem JRow.frozen (h : JRow w g xs) (k : Nat) : w.frozen? ⟨g, k, none⟩ = false := blk_frozen h k
theorem JRow.set_ (h : JRow w g xs) (k y : Nat) : JRow (w.setCell ⟨g, k, none⟩ (.int .i64 (y : Int))) g (xs.set k y) := by
  unfold JRow at h ⊢
  simp [World.setCell, Array.getElem?_modify, h, List.map_set]
theorem JRow.setI (h : JRow w g xs) (k y : Nat) {z : Int} (hz : z = y) : JRow (w.setCell ⟨g, k, none⟩ (.int .i64 z)) g (xs.set k y) := by
  subst hz; exact h.set_ k y
theorem JRow.alloc (h : JRow w g xs) (o : Obj) : JRow (w.alloc o) g xs := (Below.heap_alloc w o g h.lt).trans h
theorem JRow.below (h : JRow w g xs) (hb : Below w.heap.size w w') : JRow w' g xs := (hb.block g h.lt).trans h
theorem JRow.own (h : JRow w g xs) {base n : Nat} (hb : base ≤ g) (hn : n ≤ xs.length) (hm : xs.length ≤ maxLen) : w.ownsRow base 3 1 (.slice (some ⟨g, 0, none⟩) n xs.length) n (J (xs.take n)) := by
  refine ⟨by simp; omega, .inr ⟨g, xs.length, (J xs).toArray, rfl, hb, h, hn, hm, by simp, ?_⟩⟩
  simp [List.map_take]
end
theorem jinfo_u64 : (Tryz.prog.info? 3).map (fun i => (i.zero, i.size, i.bytes)) = some (some (.int .i64 0), 1, 8) := by kernel_rfl
def jzrow (c : Nat) : Obj := .cells (J (List.replicate c 0)).toArray 3
theorem jmake_u64 (t : TypeId) (ht : Tryz.prog.underlying t = some (.slice 3)) (n c : Nat) (zc : Int) (hzc : zc = c) (hnc : n ≤ c) (hc : c ≤ 10000000000) (w : World) :
    (Instr.makeSlice t (.int .i64 (n : Int)) (.int .i64 zc)).run Tryz.prog w = .ok (.slice (some ⟨w.heap.size, 0, none⟩) n c) (w.alloc (jzrow c)) := by
  subst hzc
  obtain ⟨i0, hi, hz0, hz1, hz2⟩ := info_parts jinfo_u64
  rw [run_make_rowN t 3 i0 (.int .i64 0) ht hi hz0 .i64 .i64 n c hnc (by rw [hz2]; omega) (by omega) w, hz1]
  have : madeCells (Value.int .i64 0).cells (c * 1) = (J (List.replicate c 0)).toArray := by
    apply Array.ext'
    show (madeCells #[Value.int .i64 0] (c * 1)).toList = _
    rw [toList_madeCells_one]; simp
  rw [this]; rfl
theorem jzrow_row (w : World) (c : Nat) : JRow (w.alloc (jzrow c)) w.heap.size (List.replicate c 0) := heap_alloc_new w _
end Go.Proofs.YtgnppdkeiihlfaaGreatDoor
/- trancheref01: trim, order, group. -/
namespace Go.Proofs.YtgnppdkeiihlfaaGreatDoor
open Go.RowKit Num
def rord (m n : Nat) : Int := if m < n then -1 else if n < m then 1 else 0
theorem rord_lt {m n : Nat} (h : m < n) : rord m n = -1 := by unfold rord; rw [if_pos h]
theorem rord_gt {m n : Nat} (h : n < m) : rord m n = 1 := by unfold rord; rw [if_neg (by omega), if_pos h]
theorem rord_of {m n : Nat} {c : Int} (h : cmpG m n = c) (hc : c = -1 ∨ c = 0 ∨ c = 1 := by decide) : rord m n = c := by
  have h1 := cmpG_neg m n
  have h2 := cmpG_pos m n
  rw [h] at h1 h2
  unfold rord
  split
  · have := h1.2 (by assumption); omega
  · split
    · have := h2.2 (by assumption); omega
    · have a := mt h1.1 (by assumption)
      have b := mt h2.1 (by assumption)
      omega
set_option maxHeartbeats 400000 in
theorem trim_ref (A : Option Addr) (n c : Nat) (l : List Nat) (w : World) (base : Nat) (h : w.ownsRow base 3 1 (.slice A n c) n (J l)) :
    Calls Tryz.prog 257 #[.slice A n c] w fun e w' => e = .returned (.slice A (cutZ l).length c) ∧ w = w' := by
  have hl := jown_len h
  obtain ⟨hc1, hc2⟩ := jown_cap h
  unfold maxLen at hc2
  have h0 : cutZ (l.take n) = cutZ l := by rw [List.take_of_length_le (by omega)]
  have H0 := Lib.hid h0; clear h0
  have HL := Lib.hid hl; clear hl
  go_enter Tryz.func257, Tryz.ntmps257
  go_wp2
  go_loop [0] (fun v => ∃ k : Nat, k ≤ n ∧ Hid (cutZ (l.take k) = cutZ l) ∧ v = .slice A k c) (fun v => sLen v)
  case atStart => exact ⟨n, Nat.le_refl _, H0, rfl⟩
  case round =>
    obtain ⟨k, hk, HZ, rfl⟩ := hrel
    by_cases hk0 : k = 0
    · subst hk0
      go_wp2
      go_ret
      have := HZ.out
      simp [cutZ_nil] at this
      exact ⟨by rw [this]; rfl, rfl⟩
    · obtain ⟨j, rfl⟩ : ∃ j, k = j + 1 := ⟨k - 1, by omega⟩
      obtain ⟨g, x, rfl, hx, hg, hgl, hcell, hfr⟩ := jown_at h (k := j) (by omega)
      have HX := Lib.hid hx; clear hx
      clear h
      by_cases hx0 : x = 0
      · subst hx0
        go_wp2
        go_round
        case rel => exact ⟨j, by omega, by rw [← cutZ_take_succ HX.out]; exact HZ, by go_num⟩
        case measure => simp
      · have hxb : ((x : Int) == 0) = false := by simp; omega
        go_wp2
        go_ret
        have := HZ.out
        exact ⟨by rw [← this, cutZ_take_ne HX.out hx0]; rfl, rfl⟩
set_option maxHeartbeats 1000000 in
theorem order_ref (A A' : Option Addr) (n c n' c' : Nat) (a b : Nat) (w : World) (base base' : Nat) (h : w.ownsRow base 3 1 (.slice A n c) n (J (grp a))) (h' : w.ownsRow base' 3 1 (.slice A' n' c') n' (J (grp b))) :
    Calls Tryz.prog 225 #[.slice A n c, .slice A' n' c'] w fun e w' => e = .returned (.int .i64 (rord a b)) ∧ ∃ k, w' = w.drewN k := by
  have hl := jown_len h
  have hl' := jown_len h'
  obtain ⟨hc1, hc2⟩ := jown_cap h
  obtain ⟨hc1', hc2'⟩ := jown_cap h'
  unfold maxLen at hc2 hc2'
  have HL := Lib.hid hl; clear hl
  have HL' := Lib.hid hl'; clear hl'
  by_cases hne : n = n'
  · subst hne
    have HE := Lib.hid (HL.out.trans HL'.out.symm)
    go_enter Tryz.func225, Tryz.ntmps225
    go_wp2
    go_loopw [5] (fun i wr => ∃ k : Nat, k ≤ n ∧ i = .int .i64 ((k : Int) - 1) ∧ Hid ((grp a).drop k = (grp b).drop k) ∧ ∃ q, wr = w.drewN q) (fun i _ => (intOf i + 1).toNat)
    case atStart =>
      refine ⟨n, Nat.le_refl _, rfl, ?_, 0, rfl⟩
      show _ = _
      rw [List.drop_of_length_le (by rw [HL.out]; omega), List.drop_of_length_le (by rw [HL'.out]; omega)]
    case round =>
      obtain ⟨k, hk, rfl, HD, q, rfl⟩ := hrel
      by_cases hk0 : k = 0
      · subst hk0
        go_wp2
        go_ret
        exact ⟨ret_int (rord_of (cmpG_same HE.out HD.out)).symm, q, rfl⟩
      · obtain ⟨j, rfl⟩ : ∃ j, k = j + 1 := ⟨k - 1, by omega⟩
        obtain ⟨g, x, rfl, hx, _, _, hcell, _⟩ := jown_at h (k := j) (by omega)
        obtain ⟨g', y, rfl, hy, _, _, hcell', _⟩ := jown_at h' (k := j) (by omega)
        have HX := Lib.hid hx; clear hx
        have HY := Lib.hid hy; clear hy
        clear h h'
        rcases Nat.lt_trichotomy x y with hxy | hxy | hxy
        · go_wp2
          go_quiet (fail)
          go_wp2
          go_ret
          exact ⟨ret_int (rord_of (cmpG_lt HE.out HD.out HX.out HY.out hxy)).symm, _, World.drewN_drewN _ _ _⟩
        · subst hxy
          go_wp2
          go_quiet (fail)
          go_wp2
          go_quiet (fail)
          go_wp2
          go_roundw
          case rel => exact ⟨j, by omega, by go_num, drop_eq_step HD.out HX.out HY.out, _, rfl⟩
          case measure => simp [intOf]
        · go_wp2
          go_quiet (fail)
          go_wp2
          go_quiet (fail)
          go_wp2
          go_ret
          exact ⟨ret_int (rord_of (cmpG_gt HE.out HD.out HX.out HY.out hxy)).symm, _, by rw [World.drewN_drewN, World.drewN_drewN]⟩
  · have hneb : ((n : Int) != (n' : Int)) = true := by simp; omega
    by_cases hlt : n < n'
    · have HE := Lib.hid (rord_lt (grp_len_lt a b (by rw [HL.out, HL'.out]; exact hlt)))
      go_enter Tryz.func225, Tryz.ntmps225
      go_wp2
      go_ret
      exact ⟨ret_int HE.out.symm, 0, rfl⟩
    · have HE := Lib.hid (rord_gt (grp_len_lt b a (by rw [HL.out, HL'.out]; omega)))
      go_enter Tryz.func225, Tryz.ntmps225
      go_wp2
      go_ret
      exact ⟨ret_int HE.out.symm, 0, rfl⟩
set_option maxHeartbeats 400000 in
theorem group_ref (A : Option Addr) (n c : Nat) (l : List Nat) (i : Nat) (w : World) (base : Nat) (h : w.ownsRow base 3 1 (.slice A n c) n (J l)) :
    Calls Tryz.prog 256 #[.slice A n c, .int .i64 (i : Int)] w fun e w' => e = .returned (.int .i64 ((l.getD i 0 : Nat) : Int)) ∧ w = w' := by
  have hl := jown_len h
  obtain ⟨hc1, hc2⟩ := jown_cap h
  unfold maxLen at hc2
  by_cases hin : i < n
  · obtain ⟨g, x, rfl, hx, hg, hgl, hcell, hfr⟩ := jown_at h hin
    have HX := Lib.hid hx
    clear h hx hl
    go_enter Tryz.func256, Tryz.ntmps256
    go_wp2
    go_ret
    refine ⟨ret_int ?_, rfl⟩
    rw [List.getD_eq_getElem?_getD, HX.out]; rfl
  · have HL := Lib.hid hl
    clear h hl
    go_enter Tryz.func256, Tryz.ntmps256
    go_wp2
    go_ret
    refine ⟨ret_int ?_, rfl⟩
    rw [List.getD_eq_getElem?_getD, List.getElem?_eq_none (by rw [HL.out]; omega)]; rfl
end Go.Proofs.YtgnppdkeiihlfaaGreatDoor
/- trancheref01: digits, Canonical, Check, Print, Parse. -/
namespace Go.Proofs.YtgnppdkeiihlfaaGreatDoor
open Go.RowKit Num
def strLen : Value → Nat
  | .string s => s.size
  | _ => 0
structure IsRest (l r : List UInt8) (neg : Bool) : Prop where
  rest : rest l = r
  neg : isNeg l = neg
theorem IsRest.trans_no {l r : List UInt8} {neg : Bool} (h : IsRest l r neg) (k : r.all isDig = false) : (Num.rest l).all isDig = false := by rw [h.rest]; exact k
structure IsOk (l r : List UInt8) (neg : Bool) : Prop where
  rest : Num.rest l = r
  neg' : isNeg l = neg
  ok : r.all isDig = true
theorem IsRest.trans_ok {l r : List UInt8} {neg : Bool} (h : IsRest l r neg) (k : r.all isDig = true) : IsOk l r neg := ⟨h.rest, h.neg, k⟩
theorem sig_head {x : UInt8} {t : List UInt8} (h : x ≠ 48) : sig (x :: t) = x :: t := by unfold sig; rw [List.dropWhile_cons_of_neg (by simpa using h)]
theorem sig_zero {x : UInt8} {t : List UInt8} (h : x.toNat = 48) : sig (x :: t) = sig t := by
  have : x = 48 := UInt8.toNat_inj.1 h
  subst this
  unfold sig; rw [List.dropWhile_cons_of_pos (by decide)]
theorem sig_done {t : List UInt8} (h : t = [] ∨ ∃ x t', t = x :: t' ∧ x ≠ 48) : sig t = t := by
  rcases h with rfl | ⟨x, t', rfl, h⟩
  · rfl
  · exact sig_head h
theorem IsOk.dig {l r t : List UInt8} {neg : Bool} (h : IsOk l r neg) (hs : sig t = sig r) (ht : t = [] ∨ t.headD 0 ≠ 48) : digs l = t := by
  rw [digs_ok (by rw [h.rest]; exact h.ok), h.rest, ← hs]
  refine sig_done ?_
  cases t with
  | nil => exact .inl rfl
  | cons x t => exact .inr ⟨x, t, rfl, by rcases ht with ht | ht; · cases ht
                                          · exact ht⟩
theorem IsOk.neg {l r t : List UInt8} {neg : Bool} (h : IsOk l r neg) (hs : sig t = sig r) (ht : t = [] ∨ t.headD 0 ≠ 48) : negB l = (neg && !t.isEmpty) := by
  have := h.dig hs ht
  rw [negB_ok (by rw [h.rest]; exact h.ok), h.neg', ← digs_ok (by rw [h.rest]; exact h.ok), this]
theorem not_all {r : List UInt8} {k : Nat} {x : UInt8} (h : r[k]? = some x) (hx : x.toNat < 48 ∨ 57 < x.toNat) : r.all isDig = false := by
  rw [List.all_eq_false]
  exact ⟨x, List.mem_of_getElem? h, by simp [isDig]; omega⟩
theorem all_snoc {r : List UInt8} {k : Nat} {x : UInt8} (h : (r.take k).all isDig = true) (hx : r[k]? = some x) (h1 : 48 ≤ x.toNat) (h2 : x.toNat ≤ 57) : (r.take (k + 1)).all isDig = true := by
  rw [List.take_add_one, hx, List.all_append, h]
  simp [isDig, h1, h2]
set_option maxHeartbeats 2000000 in
set_option maxRecDepth 100000 in
theorem rdigits_any (l : List UInt8) (w : World) (hl : l.length ≤ 1000000) :
    Calls Tryz.prog 153 #[.string ⟨l.toArray⟩] w fun e w' => e = .returned (.tuple #[.string ⟨(digs l).toArray⟩, .bool (negB l)]) ∧ w = w' := by
  cases l with
  | nil =>
    have k0 : decide (0 < ([] : List UInt8).length) = false := rfl
    go_enter Tryz.func153, Tryz.ntmps153
    go_wp2_with fail
    clear k0
    go_loop [6] (fun iv => iv = .int .i64 0) (fun _ => 0)
    case atStart => rfl
    case round =>
      subst hrel
      go_wp2_with fail
      go_loop [4] (fun sv => sv = .string ⟨#[]⟩) (fun _ => 0)
      case atStart => rfl
      case round =>
        subst hrel
        go_wp2
        go_ret2
        exact ⟨rfl, rfl⟩
  | cons c t =>
    have k0 : decide (0 < (c :: t).length) = true := decide_eq_true (by simp)
    have k00 : 0 < (c :: t).length := by simp
    have htl : t.length ≤ 1000000 := by simp at hl; omega
    by_cases hc : ((c.toNat : Int) == 45) = true
    · have hr : IsRest (c :: t) t true := by
        have : c = 45 := UInt8.toNat_inj.1 (by rw [beq_iff_eq] at hc; exact Int.ofNat_inj.1 hc)
        subst this; exact ⟨rfl, rfl⟩
      have k2 : ∀ hp, ((((⟨(c :: t).toArray⟩ : ByteArray)[0]'hp).toNat : Int) == 45) = true := fun hp => hc
      have k4 : (⟨(c :: t).toArray⟩ : ByteArray).extract 1 (t.length + 1) = ⟨t.toArray⟩ := by rw [extract_list]; simp
      clear hc hl
      go_enter Tryz.func153, Tryz.ntmps153
      go_wp2_with fail
      clear k2 k4 k0 k00
      have HR := Lib.hid hr
      clear hr
      go_loop [6] (fun iv => ∃ k : Nat, k ≤ (t).length ∧ iv = .int .i64 (k : Int) ∧ Hid (((t).take k).all isDig = true)) (fun iv => (t).length - (intOf iv).toNat)
      case atStart => exact ⟨0, Nat.zero_le _, rfl, rfl⟩
      case round =>
        obtain ⟨k, hk, rfl, HK⟩ := hrel
        by_cases hlt : k < (t).length
        · have hlt' : k < (⟨(t).toArray⟩ : ByteArray).size := by show k < (t).toArray.size; simpa using hlt
          obtain ⟨x, hx⟩ : ∃ x, x = (⟨(t).toArray⟩ : ByteArray)[k] := ⟨_, rfl⟩
          have hxl : (t)[k]? = some x := by rw [hx]; simp [hlt]; rfl
          have HX := Lib.hid hxl
          clear hxl
          have hx2 : ∀ hp, (⟨(t).toArray⟩ : ByteArray)[k]'hp = x := fun _ => hx.symm
          clear hx
          by_cases d1 : (x.toNat : Int) < 48
          · have e1 : decide ((x.toNat : Int) < 48) = true := decide_eq_true d1
            go_wp2
            go_ret2
            exact ⟨ret2 (str_eq (digs_no (HR.out.trans_no (not_all HX.out (.inl (by omega))))).symm) (by rw [negB_no (HR.out.trans_no (not_all HX.out (.inl (by omega))))]; rfl), rfl⟩
          · have e1 : decide ((x.toNat : Int) < 48) = false := decide_eq_false d1
            by_cases d2 : 57 < (x.toNat : Int)
            · have e2 : decide (57 < (x.toNat : Int)) = true := decide_eq_true d2
              go_wp2
              go_ret2
              exact ⟨ret2 (str_eq (digs_no (HR.out.trans_no (not_all HX.out (.inr (by omega))))).symm) (by rw [negB_no (HR.out.trans_no (not_all HX.out (.inr (by omega))))]; rfl), rfl⟩
            · have e2 : decide (57 < (x.toNat : Int)) = false := decide_eq_false d2
              go_wp2
              go_round
              case rel => exact ⟨k + 1, by omega, by go_num, all_snoc HK.out HX.out (by omega) (by omega)⟩
              case measure => simp [intOf]; omega
        · have hok : ((t)).all isDig = true := by have := HK.out; rwa [List.take_of_length_le (by omega)] at this
          have HO := Lib.hid (HR.out.trans_ok hok)
          clear hok HK
          go_wp2_with fail
          go_loop [4] (fun sv => ∃ v : List UInt8, sv = .string ⟨v.toArray⟩ ∧ v.length ≤ 1000000 ∧ Hid (sig v = sig (t))) (fun sv => strLen sv)
          case atStart => exact ⟨_, rfl, by omega, rfl⟩
          case round =>
            obtain ⟨v, rfl, hvl, HT⟩ := hrel
            cases v with
            | nil =>
              have k1 : decide (0 < ([] : List UInt8).length) = false := rfl
              go_wp2
              go_ret2
              exact ⟨ret2 (str_eq (HO.out.dig HT.out (.inl rfl)).symm) (by rw [HO.out.neg HT.out (.inl rfl)]; rfl), rfl⟩
            | cons x v =>
              have k1 : decide (0 < (x :: v).length) = true := decide_eq_true (by simp)
              have k3 : 0 < (x :: v).length := by simp
              by_cases hx : ((x.toNat : Int) == 48) = true
              · have k2 : ∀ hp, ((((⟨(x :: v).toArray⟩ : ByteArray)[0]'hp).toNat : Int) == 48) = true := fun hp => hx
                have k4 : (⟨(x :: v).toArray⟩ : ByteArray).extract 1 (v.length + 1) = ⟨v.toArray⟩ := by rw [extract_list]; simp
                have HX := Lib.hid hx
                clear hx
                go_wp2
                go_round
                case rel => exact ⟨v, rfl, by simp at hvl; omega, HT.out.symm.trans (sig_zero (by have := HX.out; rw [beq_iff_eq] at this; omega)) |>.symm⟩
                case measure => show v.toArray.size < (x :: v).toArray.size; simp
              · have hx' : ((x.toNat : Int) == 48) = false := by simpa using hx
                have k2 : ∀ hp, ((((⟨(x :: v).toArray⟩ : ByteArray)[0]'hp).toNat : Int) == 48) = false := fun hp => hx'
                have hxn : x ≠ 48 := fun e => hx (by rw [e]; rfl)
                have HX := Lib.hid hxn
                clear hx hx' hxn
                go_wp2
                go_ret2
                exact ⟨ret2 (str_eq (HO.out.dig HT.out (.inr HX.out)).symm) (by rw [HO.out.neg HT.out (.inr HX.out)]; simp), rfl⟩
    · have hc' : ((c.toNat : Int) == 45) = false := by simpa using hc
      have hr : IsRest (c :: t) (c :: t) false := by
        have h1 : ¬ c = 45 := fun e => hc (by rw [e]; rfl)
        refine ⟨?_, ?_⟩
        · unfold Num.rest isNeg; simp [h1]
        · unfold isNeg; simp [h1]
      have k2 : ∀ hp, ((((⟨(c :: t).toArray⟩ : ByteArray)[0]'hp).toNat : Int) == 45) = false := fun hp => hc'
      clear hc hc' htl
      obtain ⟨u, hu⟩ : ∃ u, u = c :: t := ⟨_, rfl⟩
      rw [← hu] at hr k0 k00 k2 hl ⊢
      clear hu
      go_enter Tryz.func153, Tryz.ntmps153
      go_wp2_with fail
      clear k2 k0
      have HR := Lib.hid hr
      clear hr
      go_loop [6] (fun iv => ∃ k : Nat, k ≤ (u).length ∧ iv = .int .i64 (k : Int) ∧ Hid (((u).take k).all isDig = true)) (fun iv => (u).length - (intOf iv).toNat)
      case atStart => exact ⟨0, Nat.zero_le _, rfl, rfl⟩
      case round =>
        obtain ⟨k, hk, rfl, HK⟩ := hrel
        by_cases hlt : k < (u).length
        · have hlt' : k < (⟨(u).toArray⟩ : ByteArray).size := by show k < (u).toArray.size; simpa using hlt
          obtain ⟨x, hx⟩ : ∃ x, x = (⟨(u).toArray⟩ : ByteArray)[k] := ⟨_, rfl⟩
          have hxl : (u)[k]? = some x := by rw [hx]; simp [hlt]; rfl
          have HX := Lib.hid hxl
          clear hxl
          have hx2 : ∀ hp, (⟨(u).toArray⟩ : ByteArray)[k]'hp = x := fun _ => hx.symm
          clear hx
          by_cases d1 : (x.toNat : Int) < 48
          · have e1 : decide ((x.toNat : Int) < 48) = true := decide_eq_true d1
            go_wp2
            go_ret2
            exact ⟨ret2 (str_eq (digs_no (HR.out.trans_no (not_all HX.out (.inl (by omega))))).symm) (by rw [negB_no (HR.out.trans_no (not_all HX.out (.inl (by omega))))]; rfl), rfl⟩
          · have e1 : decide ((x.toNat : Int) < 48) = false := decide_eq_false d1
            by_cases d2 : 57 < (x.toNat : Int)
            · have e2 : decide (57 < (x.toNat : Int)) = true := decide_eq_true d2
              go_wp2
              go_ret2
              exact ⟨ret2 (str_eq (digs_no (HR.out.trans_no (not_all HX.out (.inr (by omega))))).symm) (by rw [negB_no (HR.out.trans_no (not_all HX.out (.inr (by omega))))]; rfl), rfl⟩
            · have e2 : decide (57 < (x.toNat : Int)) = false := decide_eq_false d2
              go_wp2
              go_round
              case rel => exact ⟨k + 1, by omega, by go_num, all_snoc HK.out HX.out (by omega) (by omega)⟩
              case measure => simp [intOf]; omega
        · have hok : ((u)).all isDig = true := by have := HK.out; rwa [List.take_of_length_le (by omega)] at this
          have HO := Lib.hid (HR.out.trans_ok hok)
          clear hok HK
          go_wp2_with fail
          go_loop [4] (fun sv => ∃ v : List UInt8, sv = .string ⟨v.toArray⟩ ∧ v.length ≤ 1000000 ∧ Hid (sig v = sig (u))) (fun sv => strLen sv)
          case atStart => exact ⟨_, rfl, by omega, rfl⟩
          case round =>
            obtain ⟨v, rfl, hvl, HT⟩ := hrel
            cases v with
            | nil =>
              have k1 : decide (0 < ([] : List UInt8).length) = false := rfl
              go_wp2
              go_ret2
              exact ⟨ret2 (str_eq (HO.out.dig HT.out (.inl rfl)).symm) (by rw [HO.out.neg HT.out (.inl rfl)]; rfl), rfl⟩
            | cons x v =>
              have k1 : decide (0 < (x :: v).length) = true := decide_eq_true (by simp)
              have k3 : 0 < (x :: v).length := by simp
              by_cases hx : ((x.toNat : Int) == 48) = true
              · have k2 : ∀ hp, ((((⟨(x :: v).toArray⟩ : ByteArray)[0]'hp).toNat : Int) == 48) = true := fun hp => hx
                have k4 : (⟨(x :: v).toArray⟩ : ByteArray).extract 1 (v.length + 1) = ⟨v.toArray⟩ := by rw [extract_list]; simp
                have HX := Lib.hid hx
                clear hx
                go_wp2
                go_round
                case rel => exact ⟨v, rfl, by simp at hvl; omega, HT.out.symm.trans (sig_zero (by have := HX.out; rw [beq_iff_eq] at this; omega)) |>.symm⟩
                case measure => show v.toArray.size < (x :: v).toArray.size; simp
              · have hx' : ((x.toNat : Int) == 48) = false := by simpa using hx
                have k2 : ∀ hp, ((((⟨(x :: v).toArray⟩ : ByteArray)[0]'hp).toNat : Int) == 48) = false := fun hp => hx'
                have hxn : x ≠ 48 := fun e => hx (by rw [e]; rfl)
                have HX := Lib.hid hxn
                clear hx hx' hxn
                go_wp2
                go_ret2
                exact ⟨ret2 (str_eq (HO.out.dig HT.out (.inr HX.out)).symm) (by rw [HO.out.neg HT.out (.inr HX.out)]; simp), rfl⟩
end Go.Proofs.YtgnppdkeiihlfaaGreatDoor
/- trancheref01: Canonical, Compare, Neg, Print, Parse, Check. -/
namespace Go.Proofs.YtgnppdkeiihlfaaGreatDoor
open Go.RowKit Num
theorem dec_len_le {m : Nat} (h : m ≠ 0) : 10 ^ ((dec m).length - 1) ≤ m := by
  cases hd : dec m with
  | nil => have := nat_dec m; rw [hd] at this; simp [nat_nil] at this; omega
  | cons c t =>
    have h1 := nat_dec m
    rw [hd, nat_cons] at h1
    have h2 := sig_dec m
    rw [hd] at h2
    have hc : c ≠ 48 := fun e => by
      subst e
      rw [sig_zero rfl] at h2
      have h3 : (sig t).length ≤ t.length := by unfold sig; exact (List.dropWhile_sublist _).length_le
      rw [h2, List.length_cons] at h3; omega
    have h4 := List.all_eq_true.1 (dec_digs m) c (by rw [hd]; exact List.mem_cons_self)
    have h5 : 1 ≤ c.toNat - 48 := by
      simp [isDig] at h4
      have : c.toNat ≠ 48 := fun e => hc (UInt8.toNat_inj.1 e)
      omega
    simp only [List.length_cons, Nat.add_sub_cancel]
    have := Nat.mul_le_mul_right (10 ^ t.length) h5
    omega
theorem dec_len_lt {m n : Nat} (h : (dec m).length < (dec n).length) : m < n := by
  have hn : n ≠ 0 := fun e => by subst e; exact absurd h (by simp [show dec 0 = [] from rfl])
  have h1 := nat_lt (dec m) (dec_digs m)
  rw [nat_dec] at h1
  have h2 := dec_len_le hn
  have h3 : 10 ^ (dec m).length ≤ 10 ^ ((dec n).length - 1) := Nat.pow_le_pow_right (by decide) (by omega)
  omega
theorem bytesLess_nat : ∀ a b : List UInt8, a.length = b.length → a.all isDig = true → b.all isDig = true → Op.bytesLess a b = decide (nat a < nat b)
  | [], [], _, _, _ => rfl
  | x :: a, y :: b, hl, ha, hb => by
    simp only [List.all_cons, Bool.and_eq_true] at ha hb
    have hl' : a.length = b.length := by simpa using hl
    have ih := bytesLess_nat a b hl' ha.2 hb.2
    have h1 := nat_lt a ha.2
    have h2 := nat_lt b hb.2
    have hx := ha.1
    have hy := hb.1
    simp [isDig] at hx hy
    rw [nat_cons, nat_cons, hl']
    rw [hl'] at h1
    unfold Op.bytesLess
    rcases Nat.lt_trichotomy x.toNat y.toNat with h | h | h
    · have h3 : x < y := UInt8.lt_iff_toNat_lt.2 h
      have h4 : (x.toNat - 48 + 1) * 10 ^ b.length ≤ (y.toNat - 48) * 10 ^ b.length := Nat.mul_le_mul_right _ (by omega)
      rw [Nat.add_mul] at h4
      have h5 : (x.toNat - 48) * 10 ^ b.length + nat a < (y.toNat - 48) * 10 ^ b.length + nat b := by omega
      simp [h3, h5]
    · have h3 : x = y := UInt8.toNat_inj.1 h
      subst h3
      simp [ih, UInt8.lt_irrefl]
    · have h3 : ¬ x < y := fun e => by have := UInt8.lt_iff_toNat_lt.1 e; omega
      have h6 : x ≠ y := fun e => by subst e; omega
      have h4 : (y.toNat - 48 + 1) * 10 ^ b.length ≤ (x.toNat - 48) * 10 ^ b.length := Nat.mul_le_mul_right _ (by omega)
      rw [Nat.add_mul] at h4
      have h5 : ¬ ((x.toNat - 48) * 10 ^ b.length + nat a < (y.toNat - 48) * 10 ^ b.length + nat b) := by omega
      simp [h3, h5, h6]
def cmpS (s : List UInt8) (m : Bool) (t : List UInt8) (n : Bool) : Int :=
  if m != n then (if m then -1 else 1)
  else if s.length = t.length then (if Op.bytesLess s t then (if m then 1 else -1) else if s = t then 0 else (if m then -1 else 1))
  else if s.length < t.length then (if m then 1 else -1) else (if m then -1 else 1)
theorem val_digs (l : List UInt8) : val l = if negB l then -((nat (digs l) : Nat) : Int) else ((nat (digs l) : Nat) : Int) := rfl
theorem digs_pos {l : List UInt8} (h : negB l = true) : 0 < nat (digs l) := by
  have h1 : digs l ≠ [] := fun e => by unfold negB at h; rw [e] at h; simp at h
  rw [digs_dec] at h1 ⊢
  rw [nat_dec]
  rcases Nat.eq_zero_or_pos (val l).natAbs with h0 | h0
  · rw [h0] at h1; exact absurd rfl h1
  · exact h0
theorem cmpS_eq (l l' : List UInt8) : cmpS (digs l) (negB l) (digs l') (negB l') = cmpZ (val l) (val l') := by
  have hz : ∀ a b : Int, cmpZ a b = if a < b then -1 else if b < a then 1 else 0 := fun _ _ => rfl
  have d1 := digs_dec l
  have d2 := digs_dec l'
  have n1 : nat (digs l) = (val l).natAbs := by rw [d1, nat_dec]
  have n2 : nat (digs l') = (val l').natAbs := by rw [d2, nat_dec]
  have p1 : negB l = true → 0 < nat (digs l) := digs_pos
  have p2 : negB l' = true → 0 < nat (digs l') := digs_pos
  have v1 := val_digs l
  have v2 := val_digs l'
  have hlt : (digs l).length < (digs l').length → nat (digs l) < nat (digs l') := fun h => by rw [d1, d2] at h; rw [n1, n2]; exact dec_len_lt h
  have hgt : (digs l').length < (digs l).length → nat (digs l') < nat (digs l) := fun h => by rw [d1, d2] at h; rw [n1, n2]; exact dec_len_lt h
  have hb : (digs l).length = (digs l').length → Op.bytesLess (digs l) (digs l') = decide (nat (digs l) < nat (digs l')) := fun h => bytesLess_nat _ _ h (by rw [d1]; exact dec_digs _) (by rw [d2]; exact dec_digs _)
  have he : digs l = digs l' ↔ nat (digs l) = nat (digs l') := ⟨fun h => by rw [h], fun h => by rw [d1, d2, ← n1, ← n2, h]⟩
  rw [hz]
  unfold cmpS
  generalize negB l = m at *
  generalize negB l' = n at *
  generalize val l = x at *
  generalize val l' = y at *
  by_cases hl : (digs l).length = (digs l').length
  · rw [if_pos hl, hb hl]
    simp only [he, decide_eq_true_eq]
    generalize nat (digs l) = a at *
    generalize nat (digs l') = b at *
    clear hb hlt hgt he d1 d2 hl
    cases m <;> cases n <;> simp_all <;> (repeat' split) <;> omega
  · rw [if_neg hl]
    have hne : nat (digs l) < nat (digs l') ∧ (digs l).length < (digs l').length ∨ nat (digs l') < nat (digs l) ∧ ¬ (digs l).length < (digs l').length := by
      rcases Nat.lt_or_ge (digs l).length (digs l').length with h | h
      · exact .inl ⟨hlt h, h⟩
      · exact .inr ⟨hgt (by omega), by omega⟩
    clear hb hlt hgt he d1 d2 hl
    generalize nat (digs l) = a at *
    generalize nat (digs l') = b at *
    rcases hne with ⟨h1, h2⟩ | ⟨h1, h2⟩
    · simp only [h2, if_true]
      cases m <;> cases n <;> simp_all <;> (repeat' split) <;> omega
    · simp only [h2, if_false]
      cases m <;> cases n <;> simp_all <;> (repeat' split) <;> omega
set_option maxHeartbeats 1000000 in
theorem rcanonical_any (l : List UInt8) (w : World) (hl : l.length ≤ 1000000) :
    Calls Tryz.prog 112 #[.string ⟨l.toArray⟩] w fun e w' => e = .returned (.string ⟨(canon (val l)).toArray⟩) ∧ w = w' := by
  have hdl : (digs l).length ≤ 1000000000 - 1 := by
    have : (digs l).length ≤ l.length + 1 := by
      rw [digs_dec]
      have h1 : (dec (val l).natAbs).length ≤ (canon (val l)).length := by unfold canon; split <;> simp
      exact Nat.le_trans h1 (canon_len_le _ _ (val_lt l))
    omega
  have ha := str_add2 [45] (digs l) (by rw [List.length_singleton]; omega)
  rw [canon_val]
  have hd : ∀ w : World, _ := fun w => rdigits_any l w hl
  have HD := Lib.hid hd
  clear hd hdl
  cases hn : negB l
  · rw [hn] at HD
    go_enter Tryz.func112, Tryz.ntmps112
    go_wp2_with (go_at_call 153; refine (HD.out _).mono ?_; rintro e w' ⟨rfl, rfl⟩)
    go_ret
    exact ⟨rfl, rfl⟩
  · rw [hn] at HD
    go_enter Tryz.func112, Tryz.ntmps112
    go_wp2_with (go_at_call 153; refine (HD.out _).mono ?_; rintro e w' ⟨rfl, rfl⟩)
    go_ret
    exact ⟨rfl, rfl⟩
set_option maxHeartbeats 2000000 in
theorem rcompare_any (l l' : List UInt8) (w : World) (hl : l.length ≤ 1000000) (hl' : l'.length ≤ 1000000) :
    Calls Tryz.prog 113 #[.string ⟨l.toArray⟩, .string ⟨l'.toArray⟩] w fun e w' => e = .returned (.int .i64 (cmpZ (val l) (val l'))) ∧ w = w' := by
  rw [← cmpS_eq]
  have hd : ∀ w : World, _ := fun w => rdigits_any l w hl
  have hd' : ∀ w : World, _ := fun w => rdigits_any l' w hl'
  generalize digs l = s at *
  generalize digs l' = t at *
  generalize negB l = m at *
  generalize negB l' = n at *
  have HD := Lib.hid hd
  have HD' := Lib.hid hd'
  clear hd hd'
  cases m <;> cases n
  all_goals
    go_enter Tryz.func113, Tryz.ntmps113
    go_wp2_with fail
    ((with_reducible refine (HD.out _).mono ?_); rintro e w' ⟨rfl, rfl⟩)
    go_wp2_with fail
    ((with_reducible refine (HD'.out _).mono ?_); rintro e w' ⟨rfl, rfl⟩)
    go_wp2
  all_goals go_ret
  all_goals clear HD HD'
  all_goals refine ⟨ret_int ?_, rfl⟩
  all_goals (first | rfl | (unfold cmpS; simp_all; done) | (unfold cmpS; simp_all; omega))
section
variable {l l' : List UInt8}
theorem qCompare (hl : l.length ≤ 1000000) (hl' : l'.length ≤ 1000000) {c : Int} (e : cmpZ (val l) (val l') = c) : Ret 113 #[.string ⟨l.toArray⟩, .string ⟨l'.toArray⟩] (.int .i64 c) := fun w _ => by
  subst e; exact (rcompare_any l l' w hl hl').mono fun e w' ⟨h, k⟩ => ⟨h, by subst k; exact Below.refl _ _⟩
end
end Go.Proofs.YtgnppdkeiihlfaaGreatDoor
/- trancheref01: Neg, Print, Parse, Of, short. -/
namespace Go.Proofs.YtgnppdkeiihlfaaGreatDoor
open Go.RowKit Num
theorem canon_neg_digs (l : List UInt8) : canon (-val l) = if negB l = true ∨ digs l = [] then digs l else 45 :: digs l := by
  have d := digs_dec l
  have v := val_digs l
  have n1 : nat (digs l) = (val l).natAbs := by rw [d, nat_dec]
  by_cases hn : negB l = true
  · rw [if_pos (.inl hn)]
    rw [hn, if_pos rfl] at v
    unfold canon
    rw [if_neg (by omega), Int.natAbs_neg, ← d]
  · rw [if_neg hn] at v
    by_cases h0 : digs l = []
    · rw [if_pos (.inr h0), h0]
      rw [h0] at v
      have : val l = 0 := by rw [v]; rfl
      rw [this]; rfl
    · rw [if_neg (by simp [hn, h0])]
      have hp : (val l).natAbs ≠ 0 := fun e => h0 (by rw [d, e]; rfl)
      unfold canon
      rw [if_pos (by omega), Int.natAbs_neg, ← d]
theorem digs_len_le (l : List UInt8) : (digs l).length ≤ l.length + 1 := by
  rw [digs_dec]
  have h1 : (dec (val l).natAbs).length ≤ (canon (val l)).length := by unfold canon; split <;> simp
  exact Nat.le_trans h1 (canon_len_le _ _ (val_lt l))
set_option maxHeartbeats 1000000 in
theorem rneg_any (l : List UInt8) (w : World) (hl : l.length ≤ 1000000) :
    Calls Tryz.prog 90 #[.string ⟨l.toArray⟩] w fun e w' => e = .returned (.string ⟨(canon (-val l)).toArray⟩) ∧ w = w' := by
  have hdl := digs_len_le l
  have ha := str_add2 [45] (digs l) (by rw [List.length_singleton]; omega)
  rw [canon_neg_digs]
  have hd : ∀ w : World, _ := fun w => rdigits_any l w hl
  generalize digs l = s at *
  generalize negB l = m at *
  have HD := Lib.hid hd
  clear hd hdl
  cases m
  · by_cases h : s = []
    · subst h
      go_enter Tryz.func90, Tryz.ntmps90
      go_wp2_with (go_at_call 153; refine (HD.out _).mono ?_; rintro e w' ⟨rfl, rfl⟩)
      go_ret
      exact ⟨rfl, rfl⟩
    · rw [if_neg (by simp [h])]
      have h1 : s.isEmpty = false := by cases s <;> simp_all
      have h2 : (s == []) = false := by rw [beq_eq_false_iff_ne]; exact h
      clear h
      go_enter Tryz.func90, Tryz.ntmps90
      go_wp2_with (go_at_call 153; refine (HD.out _).mono ?_; rintro e w' ⟨rfl, rfl⟩)
      go_ret
      exact ⟨rfl, rfl⟩
  · rw [if_pos (.inl rfl)]
    clear ha
    go_enter Tryz.func90, Tryz.ntmps90
    go_wp2_with (go_at_call 153; refine (HD.out _).mono ?_; rintro e w' ⟨rfl, rfl⟩)
    go_ret
    exact ⟨rfl, rfl⟩
theorem tdiv_abs (m : Int) : (m.tdiv 10).natAbs = m.natAbs / 10 := by
  rw [Int.natAbs_tdiv]; rfl
theorem tmod_abs (m : Int) : (m.tmod 10).natAbs = m.natAbs % 10 := by
  rw [Int.natAbs_tmod]; rfl
theorem str_add1 (c : UInt8) (t : List UInt8) (h : t.length ≤ 1000000) (w : World) : (Op.stringOp .add ⟨#[c]⟩ ⟨t.toArray⟩).run Tryz.prog w = .ok (.string ⟨(c :: t).toArray⟩) w :=
  str_add2 [c] t (by rw [List.length_singleton]; omega) w
def IsTail (n : Int) (m : Int) (t : List UInt8) : Prop := dec n.natAbs = dec m.natAbs ++ t ∧ t.length ≤ 20 ∧ m.natAbs * 10 ^ t.length ≤ n.natAbs ∧ (0 ≤ n → 0 ≤ m) ∧ (n < 0 → m ≤ 0)
theorem dg_mod (k : Nat) : dg (k % 10) = dg k := by unfold dg; rw [Nat.mod_mod]
theorem IsTail.step {n m : Int} {t : List UInt8} (h : IsTail n m t) (hm : m ≠ 0) (hn : n.natAbs ≤ 9223372036854775808) : IsTail n (m.tdiv 10) (dg (m.natAbs % 10) :: t) ∧ t.length ≤ 18 := by
  obtain ⟨a, b, c, d, e⟩ := h
  have hp : 10 ^ t.length ≤ m.natAbs * 10 ^ t.length := Nat.le_mul_of_pos_left _ (by omega)
  have hl : t.length ≤ 18 := by
    rcases Nat.lt_or_ge 18 t.length with h' | h'
    · have : 10 ^ 19 ≤ 10 ^ t.length := Nat.pow_le_pow_right (by decide) h'
      have : (10 : Nat) ^ 19 = 10000000000000000000 := by decide
      omega
    · exact h'
  refine ⟨⟨?_, ?_, ?_, ?_, ?_⟩, hl⟩
  · rw [tdiv_abs, a, dec_pos m.natAbs (by omega), dg_mod]; simp
  · simp; omega
  · rw [tdiv_abs, List.length_cons, Nat.pow_succ, Nat.mul_comm (10 ^ t.length) 10, ← Nat.mul_assoc]
    have : m.natAbs / 10 * 10 ≤ m.natAbs := Nat.div_mul_le_self _ _
    exact Nat.le_trans (Nat.mul_le_mul_right _ this) c
  · intro h; have := d h; exact Int.tdiv_nonneg this (by decide)
  · intro h; have := e h
    have h1 : (-m).tdiv 10 = -(m.tdiv 10) := Int.neg_tdiv m 10
    have h2 : 0 ≤ (-m).tdiv 10 := Int.tdiv_nonneg (by omega) (by decide)
    omega
theorem digit_of_mod (m : Int) : (m.tmod 10 = ((m.natAbs % 10 : Nat) : Int)) ∨ (m.tmod 10 = -((m.natAbs % 10 : Nat) : Int) ∧ 0 < m.natAbs % 10) := by
  have := tmod_abs m
  omega
theorem enc_dig (k : Nat) (h : k ≤ 9) : Utf8.encode (48 + (k : Int)) = ⟨#[dg k]⟩ := by
  have : k = 0 ∨ k = 1 ∨ k = 2 ∨ k = 3 ∨ k = 4 ∨ k = 5 ∨ k = 6 ∨ k = 7 ∨ k = 8 ∨ k = 9 := by omega
  rcases this with rfl | rfl | rfl | rfl | rfl | rfl | rfl | rfl | rfl | rfl <;> rfl
theorem wrap_a {x : Int} (h : 0 ≤ x) (h' : x ≤ 9) : wrap32 (wrap64 (48 + x)) = 48 + x := by unfold wrap32 wrap64; omega
theorem wrap_b {x : Int} (h : 0 ≤ x) (h' : x ≤ 9) : wrap64 x = x := by unfold wrap64; omega
theorem enc_pos {x : Int} {k : Nat} (hk : k ≤ 9) (e : x = k) : Utf8.encode (wrap32 (wrap64 (48 + x))) = ⟨#[dg k]⟩ := by
  have h1 : wrap32 (wrap64 (48 + x)) = 48 + (k : Int) := by rw [wrap_a (by omega) (by omega), e]
  exact (congrArg Utf8.encode h1).trans (enc_dig k hk)
theorem enc_neg {x : Int} {k : Nat} (hk : k ≤ 9) (e : x = -(k : Int)) : Utf8.encode (wrap32 (wrap64 (48 + wrap64 (-x)))) = ⟨#[dg k]⟩ := by
  have h0 : wrap64 (-x) = -x := wrap_b (by omega) (by omega)
  exact (congrArg (fun y => Utf8.encode (wrap32 (wrap64 (48 + y)))) h0).trans (enc_pos hk (by omega))
theorem enc_small {c : UInt8} {n : Nat} (h : n ≤ 18) : ¬ 9223372036854775807 < (⟨#[c]⟩ : ByteArray).size + n := by
  show ¬ 9223372036854775807 < 1 + n; omega
theorem enc_cons {x : Int} {c : UInt8} {t : List UInt8} (h : Utf8.encode x = ⟨#[c]⟩) : Value.string (Utf8.encode x ++ ⟨t.toArray⟩) = .string ⟨(c :: t).toArray⟩ := by
  rw [h]; congr 1
set_option maxHeartbeats 2000000 in
set_option maxRecDepth 100000 in
theorem rof_any (n : Int) (w : World) (h1 : -9223372036854775808 ≤ n) (h2 : n ≤ 9223372036854775807) :
    Calls Tryz.prog 183 #[.int .i64 n] w fun e w' => e = .returned (.string ⟨(canon n).toArray⟩) ∧ w = w' := by
  by_cases h0 : n = 0
  · subst h0
    go_enter Tryz.func183, Tryz.ntmps183
    go_wp2
    go_ret
    exact ⟨rfl, rfl⟩
  · have b0 : (n == 0) = false := by rw [beq_eq_false_iff_ne]; exact h0
    have hst : IsTail n n [] := ⟨by simp, by simp, by simp, fun h => h, fun h => by omega⟩
    have HS := Lib.hid hst
    clear hst
    go_enter Tryz.func183, Tryz.ntmps183
    go_wp2_with fail
    go_loop [3, 4] (fun tv mv => ∃ (t : List UInt8) (m : Int), tv = .string ⟨t.toArray⟩ ∧ mv = .int .i64 m ∧ -9223372036854775808 ≤ m ∧ m ≤ 9223372036854775807 ∧ t.length ≤ 20 ∧ Hid (IsTail n m t)) (fun _ mv => (intOf mv).natAbs)
    case atStart => exact ⟨[], n, rfl, rfl, h1, h2, by simp, HS⟩
    case round =>
      obtain ⟨t, m, rfl, rfl, m1, m2, tl, HT⟩ := hrel
      by_cases hm : m = 0
      · subst hm
        have ht := HT.out.1
        rw [show (0 : Int).natAbs = 0 from rfl, dec_zero, List.nil_append] at ht
        have hc : canon n = if n < 0 then 45 :: t else t := by unfold canon; rw [ht]
        have HC := Lib.hid hc
        have ha := str_add1 45 t (by omega)
        clear hc ht HT HS
        by_cases hn : n < 0
        · go_wp2
          go_ret
          exact ⟨by rw [HC.out, if_pos hn]; rfl, rfl⟩
        · go_wp2
          go_ret
          exact ⟨by rw [HC.out, if_neg (by omega)]; rfl, rfl⟩
      · have b1 : (m == 0) = false := by rw [beq_eq_false_iff_ne]; exact hm
        obtain ⟨hst, htl⟩ := HT.out.step hm (by omega)
        have htd := tdiv_abs m
        have hdm := digit_of_mod m
        obtain ⟨k, hk⟩ : ∃ k, k = m.natAbs % 10 := ⟨_, rfl⟩
        have k9 : k ≤ 9 := by omega
        rw [← hk] at hst hdm
        obtain ⟨m', hm'⟩ : ∃ m', m' = m.tdiv 10 := ⟨_, rfl⟩
        rw [← hm'] at hst htd
        have hlt : m'.natAbs < m.natAbs := by omega
        have l1 : -9223372036854775808 ≤ m' := by omega
        have l2 : m' ≤ 9223372036854775807 := by omega
        have he1 : 0 ≤ m.tmod 10 → Utf8.encode (wrap32 (wrap64 (48 + m.tmod 10))) = ⟨#[dg k]⟩ := fun h => enc_pos k9 (by omega)
        have he2 : m.tmod 10 < 0 → Utf8.encode (wrap32 (wrap64 (48 + wrap64 (-m.tmod 10)))) = ⟨#[dg k]⟩ := fun h => enc_neg k9 (by omega)
        have HE1 := Lib.hid he1
        have HE2 := Lib.hid he2
        have HN := Lib.hid hst
        have HL := Lib.hid hlt
        have e2 := hm'.symm
        clear hst htd hlt hm' hk HT HS hm he1 he2 hdm k9
        go_wp2
        · exfalso
          have hbig : 9223372036854775807 < (Utf8.encode (wrap32 (wrap64 (48 + wrap64 (-m.tmod 10))))).size + t.length := by assumption
          rw [HE2.out (by assumption)] at hbig
          exact absurd hbig (enc_small (c := dg k) htl)
        · go_round
          case rel => exact ⟨dg k :: t, m', enc_cons (HE2.out (by assumption)), rfl, l1, l2, by simp; omega, HN⟩
          case measure => simp [intOf]; exact HL.out
        · exfalso
          have hbig : 9223372036854775807 < (Utf8.encode (wrap32 (wrap64 (48 + m.tmod 10)))).size + t.length := by assumption
          rw [HE1.out (by assumption)] at hbig
          exact absurd hbig (enc_small (c := dg k) htl)
        · go_round
          case rel => exact ⟨dg k :: t, m', enc_cons (HE1.out (by assumption)), rfl, l1, l2, by simp; omega, HN⟩
          case measure => simp [intOf]; exact HL.out
end Go.Proofs.YtgnppdkeiihlfaaGreatDoor
/- trancheref01: short. -/
namespace Go.Proofs.YtgnppdkeiihlfaaGreatDoor
open Go.RowKit Num
theorem nat_take_succ {s : List UInt8} {i : Nat} {x : UInt8} (h : s[i]? = some x) : nat (s.take (i + 1)) = 10 * nat (s.take i) + (x.toNat - 48) := by
  rw [List.take_add_one, h, Option.toList_some, nat_snoc]
theorem nat_take_lt {s : List UInt8} (hd : s.all isDig = true) (i : Nat) : nat (s.take i) < 10 ^ i := by
  have h1 : (s.take i).all isDig = true := List.all_eq_true.2 fun x hx => List.all_eq_true.1 hd x (List.mem_of_mem_take hx)
  refine Nat.lt_of_lt_of_le (nat_lt _ h1) (Nat.pow_le_pow_right (by decide) ?_)
  rw [List.length_take]; omega
theorem digs_all (l : List UInt8) : (digs l).all isDig = true := by rw [digs_dec]; exact dec_digs _
set_option maxHeartbeats 2000000 in
theorem rshort_yes (l : List UInt8) (w : World) (hl : l.length ≤ 1000000) (h17 : (digs l).length ≤ 17) :
    Calls Tryz.prog 182 #[.string ⟨l.toArray⟩] w fun e w' => e = .returned (.tuple #[.int .i64 (val l), .bool true]) ∧ w = w' := by
  have hd : ∀ w : World, _ := fun w => rdigits_any l w hl
  have ha := digs_all l
  have hv := val_digs l
  rw [hv]
  generalize digs l = s at *
  generalize negB l = m at *
  have HD := Lib.hid hd
  have HA := Lib.hid ha
  clear hd ha hv
  have k0 : ¬ 17 < s.length := by omega
  have k0' : decide (17 < s.length) = false := decide_eq_false k0
  cases m
  all_goals
    go_enter Tryz.func182, Tryz.ntmps182
    go_wp2_with (go_at_call 153; refine (HD.out _).mono ?_; rintro e w' ⟨rfl, rfl⟩)
    clear HD k0 k0'
    go_loop [6, 7] (fun nv iv => ∃ i N : Nat, i ≤ s.length ∧ iv = .int .i64 (i : Int) ∧ nv = .int .i64 (N : Int) ∧ N < 100000000000000000 ∧ Hid (N = nat (s.take i))) (fun _ iv => s.length - (intOf iv).toNat)
    case atStart => exact ⟨0, 0, Nat.zero_le _, rfl, rfl, by omega, rfl⟩
    case round =>
      obtain ⟨i, N, hi, rfl, rfl, hN, HN⟩ := hrel
      by_cases hlt : i < s.length
      · have hlt' : i < (⟨s.toArray⟩ : ByteArray).size := by show i < s.toArray.size; simpa using hlt
        obtain ⟨x, hx⟩ : ∃ x, x = (⟨s.toArray⟩ : ByteArray)[i] := ⟨_, rfl⟩
        have hxl : s[i]? = some x := by rw [hx]; simp [hlt]; rfl
        have hxd := List.all_eq_true.1 HA.out x (List.mem_of_getElem? hxl)
        simp only [isDig, Bool.and_eq_true, decide_eq_true_eq] at hxd
        obtain ⟨x1, x2⟩ := hxd
        have hb := nat_take_lt HA.out (i + 1)
        have hp : 10 ^ (i + 1) ≤ 10 ^ 17 := Nat.pow_le_pow_right (by decide) (by omega)
        rw [nat_take_succ hxl, ← HN.out] at hb
        have hp17 : (10 : Nat) ^ 17 = 100000000000000000 := by decide
        have hb1 : 10 * N + (x.toNat - 48) < 100000000000000000 := by omega
        have HN2 : Hid (10 * N + (x.toNat - 48) = nat (s.take (i + 1))) := by rw [nat_take_succ hxl, ← HN.out]; exact rfl
        have hx2 : ∀ hp, (⟨s.toArray⟩ : ByteArray)[i]'hp = x := fun _ => hx.symm
        clear hx hxl hb hp hp17 HN
        have x3 : (48 : Int) ≤ (x.toNat : Int) := by omega
        have x4 : (x.toNat : Int) ≤ 57 := by omega
        go_wp2
        go_round
        case rel => exact ⟨i + 1, 10 * N + (x.toNat - 48), by omega, by go_num, by first | go_num | (congr 1; omega), hb1, HN2⟩
        case measure => simp [intOf]; omega
      · have hN2 : N = nat s := by have := HN.out; rwa [List.take_of_length_le (by omega)] at this
        have HN3 := Lib.hid hN2
        clear HN hN2
        go_wp2
        go_ret2
        exact ⟨by rw [← HN3.out]; rfl, rfl⟩
set_option maxHeartbeats 2000000 in
theorem rshort_no (l : List UInt8) (w : World) (hl : l.length ≤ 1000000) (h17 : ¬ (digs l).length ≤ 17) :
    Calls Tryz.prog 182 #[.string ⟨l.toArray⟩] w fun e w' => e = .returned (.tuple #[.int .i64 0, .bool false]) ∧ w = w' := by
  have hd : ∀ w : World, _ := fun w => rdigits_any l w hl
  generalize digs l = s at *
  generalize negB l = m at *
  have HD := Lib.hid hd
  clear hd
  have k0 : 17 < s.length := by omega
  have k0' : decide (17 < s.length) = true := decide_eq_true k0
  go_enter Tryz.func182, Tryz.ntmps182
  go_wp2_with (go_at_call 153; refine (HD.out _).mono ?_; rintro e w' ⟨rfl, rfl⟩)
  go_ret2
  exact ⟨rfl, rfl⟩
end Go.Proofs.YtgnppdkeiihlfaaGreatDoor
/- trancheref01: read. -/
namespace Go.Proofs.YtgnppdkeiihlfaaGreatDoor
open Go.RowKit Num
def JMag (w : World) (base : Nat) (v : Value) (m : Nat) : Prop := w.ownsRow base 3 1 v (grp m).length (J (grp m))
theorem JMag.form {w : World} {base : Nat} {v : Value} {m : Nat} (h : JMag w base v m) : ∃ A c, v = .slice A (grp m).length c := own_form h
theorem JMag.below {w w' : World} {base : Nat} {v : Value} {m : Nat} (h : JMag w base v m) (hb : Below w.heap.size w w') : JMag w' base v m := own_below h hb
theorem JMag.base {w : World} {base base' : Nat} {v : Value} {m : Nat} (h : JMag w base v m) (hb : base' ≤ base) : JMag w base' v m := own_base h hb
theorem FBox.belowB {W W' : World} {b B : Nat} {u v : Value} (h : FBox W b u v) (k : Below B W W') (hB : b < B) : FBox W' b u v :=
  ⟨(k.cell (p := ⟨b, 0, none⟩) hB).trans h.c0, (k.cell (p := ⟨b, 1, none⟩) hB).trans h.c1, (k.frozen (p := ⟨b, 0, none⟩) hB).trans h.f0, (k.frozen (p := ⟨b, 1, none⟩) hB).trans h.f1, Nat.lt_of_lt_of_le h.lt k.size⟩
theorem FBox.set1 {W : World} {b : Nat} {u v : Value} (h : FBox W b u v) (y : Value) : FBox (W.setCell ⟨b, 1, none⟩ y) b u y := by
  have c0 := h.c0; have c1 := h.c1; have f0 := h.f0; have f1 := h.f1; have lt := h.lt
  refine ⟨by simp [go_sem, c0], by simp [go_sem, c1], by simp [go_sem, f0], by simp [go_sem, f1], by simp [lt]⟩
theorem FBox.set1_ne {W : World} {b c : Nat} {u v : Value} (h : FBox W b u v) (hn : b ≠ c) (y : Value) : FBox (W.setCell ⟨c, 1, none⟩ y) b u v := by
  have c0 := h.c0; have c1 := h.c1; have f0 := h.f0; have f1 := h.f1; have lt := h.lt
  refine ⟨by simp [go_sem, c0], by simp [go_sem, c1], by simp [go_sem, f0], by simp [go_sem, f1], by simp [lt]⟩
theorem below_set1 {w w' : World} {B : Nat} (h : Below B w w') {b : Nat} (hb : B ≤ b) (o : Nat) (y : Value) : Below B w (w'.setCell ⟨b, o, none⟩ y) := h.setCell (p := ⟨b, o, none⟩) hb y
theorem nat_mid {s : List UInt8} {i k : Nat} {x : UInt8} (h : s[i]? = some x) (hk : k ≤ i) : nat ((s.take (i + 1)).drop k) = 10 * nat ((s.take i).drop k) + (x.toNat - 48) := by
  obtain ⟨h1, -⟩ := List.getElem?_eq_some_iff.1 h
  rw [List.take_add_one, h, Option.toList_some, List.drop_append_of_le_length (by simp; omega), nat_snoc]
theorem nat_mid_lt {s : List UInt8} (hd : s.all isDig = true) (i k : Nat) (h : i ≤ k + 9) : nat ((s.take i).drop k) < 1000000000 := by
  have h1 : ((s.take i).drop k).all isDig = true := List.all_eq_true.2 fun x hx => List.all_eq_true.1 hd x (List.mem_of_mem_take (List.mem_of_mem_drop hx))
  have h2 : ((s.take i).drop k).length ≤ 9 := by simp; omega
  exact Nat.lt_of_lt_of_le (nat_lt _ h1) (Nat.pow_le_pow_right (n := 10) (by decide) h2)
set_option maxHeartbeats 4000000 in
set_option maxRecDepth 100000 in
theorem rread_any (l : List UInt8) (w : World) (hl : l.length ≤ 1000000) :
    Calls Tryz.prog 186 #[.string ⟨l.toArray⟩] w fun e w' => ∃ v, e = .returned (.agg #[.bool (negB l), v]) ∧ JMag w' w.heap.size v (val l).natAbs ∧ Below w.heap.size w w' := by
  obtain ⟨i0, hi, hz0, hz1, hz2⟩ := info_parts jinfo_u64
  have hd : ∀ w : World, _ := fun w => rdigits_any l w hl
  have HN : Hid (nat (digs l) = (val l).natAbs) := by show _ = _; rw [digs_dec, nat_dec]
  have hsd := digs_all l
  have hsh : (digs l).head? ≠ some 48 := by rw [digs_dec]; exact dec_head _
  have hsl : (digs l).length ≤ 1000001 := Nat.le_trans (digs_len_le l) (by omega)
  generalize digs l = s at *
  generalize negB l = neg at *
  have HD := Lib.hid hd
  have HSD := Lib.hid hsd
  have HSH := Lib.hid hsh
  clear hsd hsh hd
  have x2 := (FBox.new w (.bool false) (.slice none 0 0) 182).below (below_alloc _ (.cells #[.bool neg, .slice none 0 0] 182))
  have x5 := FBox.new (w.alloc (.cells #[.bool false, .slice none 0 0] 182)) (.bool neg) (.slice none 0 0) 182
  have hb0 := bto (below_alloc w (.cells #[.bool false, .slice none 0 0] 182)) (below_alloc _ (.cells #[.bool neg, .slice none 0 0] 182))
  have hs0 : ((w.alloc (.cells #[.bool false, .slice none 0 0] 182)).alloc (.cells #[.bool neg, .slice none 0 0] 182)).heap.size = w.heap.size + 2 := by simp
  rw [World.size_alloc] at x5
  obtain ⟨W0, hW0⟩ : ∃ W0, W0 = (w.alloc (.cells #[.bool false, .slice none 0 0] 182)).alloc (.cells #[.bool neg, .slice none 0 0] 182) := ⟨_, rfl⟩
  rw [← hW0] at x2 x5 hb0 hs0
  have HW := Lib.hid hW0
  have hs0 : w.heap.size + 2 ≤ W0.heap.size := by omega
  clear hW0
  go_enter Tryz.func186, Tryz.ntmps186
  go_wp2_with (go_at_call 153; refine (HD.out _).mono ?_; rintro e w1 ⟨rfl, rfl⟩)
  rw [← HW.out]
  clear HW HD
  go_loopw [6] (fun i wr => ∃ (z : Int) (G : List Nat) (A : Option Addr) (c : Nat), i = .int .i64 z ∧ -9 < z ∧ 9 * (G.length : Int) + z ≤ s.length ∧ FBox wr (w.heap.size + 1) (.bool neg) (.slice A G.length c) ∧ FBox wr w.heap.size (.bool false) (.slice none 0 0) ∧ w.heap.size + 2 ≤ wr.heap.size ∧
      wr.ownsRow (w.heap.size + 2) 3 1 (.slice A G.length c) G.length (J G) ∧ Hid (G ++ grp (nat (s.take z.toNat)) = grp (nat s)) ∧ Below w.heap.size w wr) (fun i _ => (intOf i + 9).toNat)
  case atStart => exact ⟨_, [], none, 0, rfl, by omega, by simp, x5, x2, hs0, World.ownsRow_nil _ _ _ _, by show _ = _; simp, hb0⟩
  case round =>
    obtain ⟨z, G, A, c, rfl, hz, hGl, y5, y2, hws, hown, HG, hbw⟩ := hrel
    clear x2 x5 hb0 hs0
    by_cases hz0' : z ≤ 0
    · clear hi hz0 hz1 hz2 i0
      have q0 := y5.c0
      have q1 := y5.c1
      have q2 := y2.c0
      have q3 := y2.c1
      have q4 := y2.f0
      have q5 := y2.f1
      go_wp2
      have hy := y2.set (.bool neg) (.slice A G.length c)
      have d0 := hy.c0
      have d1 := hy.c1
      refine bodyPost_ret (v := .agg #[.bool neg, .slice A G.length c]) (by simp [results, Tryz.results186, go_sem, d0, d1]) rfl ?_
      have hG : G = grp (val l).natAbs := by
        have h1 := HG.out
        rw [show z.toNat = 0 by omega, List.take_zero, nat_nil, grp_zero, List.append_nil, HN.out] at h1
        exact h1
      subst hG
      refine ⟨_, rfl, ?_, below_set2 hbw (Nat.le_refl _) _ _⟩
      exact own_base (ownsRow_setCell_below (a := ⟨w.heap.size, 1, none⟩) (ownsRow_setCell_below (a := ⟨w.heap.size, 0, none⟩) hown (by show w.heap.size < _; omega) _) (by show w.heap.size < _; omega) _) (by omega)
    · obtain ⟨e, rfl⟩ : ∃ e : Nat, z = e := ⟨z.toNat, by omega⟩
      obtain ⟨wo, hwo⟩ : ∃ wo : World, wo = wr := ⟨_, rfl⟩
      subst hwo
      go_wp2_with fail
      go_loop [7, 8] (fun nv iv => ∃ i N : Nat, e - 9 ≤ i ∧ i ≤ e ∧ iv = .int .i64 (i : Int) ∧ nv = .int .i64 (N : Int) ∧ N < 1000000000 ∧ Hid (N = nat ((s.take i).drop (e - 9)))) (fun _ iv => e - (intOf iv).toNat)
      case atStart =>
        refine ⟨e - 9, 0, Nat.le_refl _, by omega, by congr 1; omega, rfl, by omega, ?_⟩
        show 0 = nat ((s.take (e - 9)).drop (e - 9))
        rw [List.drop_of_length_le (by simp; omega)]; rfl
      case round =>
        obtain ⟨i, N, hi1, hi2, rfl, rfl, hN, HNN⟩ := hrel
        by_cases hlt : i < e
        · have hlt' : i < (⟨s.toArray⟩ : ByteArray).size := by show i < s.toArray.size; simp; omega
          obtain ⟨x, hx⟩ : ∃ x, x = (⟨s.toArray⟩ : ByteArray)[i] := ⟨_, rfl⟩
          have hxl : s[i]? = some x := by rw [hx, List.getElem?_eq_getElem (by omega)]; rfl
          have hxd := List.all_eq_true.1 HSD.out x (List.mem_of_getElem? hxl)
          simp only [isDig, Bool.and_eq_true, decide_eq_true_eq] at hxd
          obtain ⟨x1, x2⟩ := hxd
          have hb := nat_mid_lt HSD.out (i + 1) (e - 9) (by omega)
          rw [nat_mid hxl hi1, ← HNN.out] at hb
          have HN2 : Hid (10 * N + (x.toNat - 48) = nat ((s.take (i + 1)).drop (e - 9))) := by rw [nat_mid hxl hi1, ← HNN.out]; exact rfl
          have hx2 : ∀ hp, (⟨s.toArray⟩ : ByteArray)[i]'hp = x := fun _ => hx.symm
          have hsz : i < s.length := by omega
          clear hx hxl HNN hi hz0 hz1 hz2 i0 y5 y2 hown HG hbw HN HSD HSH
          have x3 : (48 : Int) ≤ (x.toNat : Int) := by omega
          have x4 : (x.toNat : Int) ≤ 57 := by omega
          go_wp2
          go_round
          case rel => exact ⟨i + 1, 10 * N + (x.toNat - 48), by omega, by omega, by go_num, by first | go_num | (congr 1; omega), hb, HN2⟩
          case measure => simp [intOf]; omega
        · obtain rfl : i = e := by omega
          have q0 := y5.c0
          have q1 := y5.c1
          have q2 := y5.f1
          go_wp2_with (at_builtin; refine wpList_append_own _ rfl _ _ 180 rfl (w.heap.size + 2) 3 i0 (.int .i64 0) 1 8 Tryz.underlying180 hi hz0 hz1 hz2 rfl (by decide) _ _ _ rfl (hown.alloc _) ⟨wo.heap.size, 0, none⟩ 1 1 [.int .i64 (N : Nat)] rfl rfl ?c1 ?c2 ?c3 ?c4 ?c5 ?_)
          case c2 => rfl
          case c3 => unfold maxLen; omega
          case c4 => omega
          case c5 => omega
          intro v' w3 hown' hgrow _
          have hb3 : Below (w.heap.size + 2) wo w3 := ((Below.refl _ wo).alloc hws _).grown hgrow (by simp; omega) (own_block_ge hown)
          have y5' := y5.belowB hb3 (by omega)
          have y2' := y2.belowB hb3 (by omega)
          have hs3 := hb3.size
          obtain ⟨A', c', rfl⟩ := own_form hown'
          have HT' : Hid ((G ++ [N]) ++ grp (nat (s.take (i - 9))) = grp (nat s)) := by
            show _ = _
            have h1 := HG.out
            rw [Int.toNat_natCast] at h1
            rw [HNN.out]
            exact read_step (by omega) (by omega) HSD.out HSH.out h1
          have hbw' := hbw.trans (hb3.mono (by omega))
          clear hown hgrow q0 q1 q2 y5 y2 HG HNN hbw hb3
          have q0 := y5'.c0
          have q1 := y5'.c1
          have q2 := y5'.f1
          go_wp2
          go_roundw
          case rel =>
            have hown2 := ownsRow_setCell_below (a := ⟨w.heap.size + 1, 1, none⟩) hown' (by show w.heap.size + 1 < _; omega) (.slice A' (G.length + 1) c')
            refine ⟨(i : Int) - 9, G ++ [N], A', c', rfl, by omega, by simp; omega, ?_, y2'.set1_ne (by omega) _, by simp; omega, ?_, by rw [show ((i : Int) - 9).toNat = i - 9 by omega]; exact HT', below_set1 hbw' (by omega) _ _⟩
            · have := y5'.set1 (.slice A' (G.length + 1) c')
              simpa using this
            · simpa using hown2
          case measure => simp [intOf]; omega
end Go.Proofs.YtgnppdkeiihlfaaGreatDoor
/- trancheref01: write. -/
namespace Go.Proofs.YtgnppdkeiihlfaaGreatDoor
open Go.RowKit Num
theorem enc_small2 {c : UInt8} {n : Nat} (h : n ≤ 150000) : ¬ 9223372036854775807 < (⟨#[c]⟩ : ByteArray).size + n := by
  show ¬ 9223372036854775807 < 1 + n; omega
structure Dig (t : List UInt8) (n len : Nat) : Prop where
  dig : t.all isDig = true
  nat : nat t = n
  len : t.length = len
theorem Dig.cons {t : List UInt8} {n len : Nat} (h : Dig t n len) (k : Nat) : Dig (dg k :: t) (k % 10 * 10 ^ len + n) (len + 1) := by
  refine ⟨by rw [List.all_cons, isDig_dg, h.dig]; rfl, ?_, by rw [List.length_cons, h.len]⟩
  rw [nat_cons, h.nat, h.len, dg_toNat]
  congr 2; omega
theorem val_dig {t : List UInt8} {n len : Nat} (h : Dig t n len) : val t = (n : Int) := by
  have hr : rest t = t := by
    unfold rest isNeg
    cases t with
    | nil => rfl
    | cons x t =>
      have := List.all_eq_true.1 h.dig x List.mem_cons_self
      have hx : x ≠ 45 := fun e => by subst e; exact absurd this (by decide)
      simp [hx]
  have hn : isNeg t = false := by
    unfold isNeg
    cases t with
    | nil => rfl
    | cons x t =>
      have := List.all_eq_true.1 h.dig x List.mem_cons_self
      have hx : x ≠ 45 := fun e => by subst e; exact absurd this (by decide)
      simp [hx]
  unfold val
  rw [negB_ok (by rw [hr]; exact h.dig), hn, Bool.false_and, if_neg (by decide), digs_ok (by rw [hr]; exact h.dig), hr, nat_sig, h.nat]
theorem val_neg_dig {t : List UInt8} {n len : Nat} (h : Dig t n len) : val (45 :: t) = -(n : Int) := by
  have hr : rest (45 :: t) = t := rfl
  have hn : isNeg (45 :: t) = true := rfl
  have h1 : digs (45 :: t) = sig t := by rw [digs_ok (by rw [hr]; exact h.dig), hr]
  unfold val
  rw [h1, nat_sig, h.nat]
  split
  · rfl
  · next hb =>
    unfold negB at hb
    rw [h1, hn, Bool.true_and] at hb
    have h2 : sig t = [] := by simpa using hb
    have h3 := nat_sig t
    rw [h2, h.nat] at h3
    have : n = 0 := h3.symm
    omega
def Down (N k : Nat) (n0 len0 : Nat) (z : Int) (t : List UInt8) : Prop := z = ((N / 10 ^ k : Nat) : Int) ∧ Dig t (N % 10 ^ k * 10 ^ len0 + n0) (len0 + k)
theorem Down.start {N n0 len0 : Nat} {t : List UInt8} (h : Dig t n0 len0) : Down N 0 n0 len0 (N : Int) t := ⟨by simp, by simpa [Nat.mod_one] using h⟩
theorem Down.step {N k n0 len0 : Nat} {z : Int} {t : List UInt8} (h : Down N k n0 len0 z t) : Down N (k + 1) n0 len0 (z.tdiv 10) (dg (z.natAbs % 10) :: t) := by
  obtain ⟨rfl, h2⟩ := h
  refine ⟨?_, ?_⟩
  · rw [Int.tdiv_eq_ediv_of_nonneg (Int.natCast_nonneg _), Nat.pow_succ, ← Nat.div_div_eq_div_mul]
    generalize N / 10 ^ k = q
    omega
  · have h3 := h2.cons (N / 10 ^ k)
    rw [Int.natAbs_natCast, dg_mod]
    have e : N / 10 ^ k % 10 * 10 ^ (len0 + k) + (N % 10 ^ k * 10 ^ len0 + n0) = N % 10 ^ (k + 1) * 10 ^ len0 + n0 := by
      rw [Nat.pow_succ, Nat.mod_mul, Nat.add_mul, Nat.pow_add, Nat.mul_comm (10 ^ len0) (10 ^ k), ← Nat.mul_assoc, Nat.mul_comm (N / 10 ^ k % 10) (10 ^ k)]
      omega
    rw [e] at h3
    exact h3
theorem Down.digit {N k n0 len0 : Nat} {z : Int} {t : List UInt8} (h : Down N k n0 len0 z t) : z.natAbs % 10 ≤ 9 ∧ z.tmod 10 = ((z.natAbs % 10 : Nat) : Int) ∧ t.length = len0 + k := by
  obtain ⟨rfl, h2⟩ := h
  refine ⟨by omega, ?_, h2.len⟩
  rw [Int.tmod_eq_emod_of_nonneg (Int.natCast_nonneg _)]
  generalize N / 10 ^ k = q
  omega
theorem down_wrap {N k n0 len0 : Nat} {z : Int} {t : List UInt8} (h : Down N k n0 len0 z t) (hN : N < BASE) : wrap64 (z.tdiv 10) = z.tdiv 10 := by
  obtain ⟨rfl, -⟩ := h
  have : N / 10 ^ k ≤ N := Nat.div_le_self _ _
  have e : BASE = 1000000000 := rfl
  rw [Int.tdiv_eq_ediv_of_nonneg (Int.natCast_nonneg _)]
  generalize N / 10 ^ k = q at *
  unfold wrap64
  omega
theorem gv_take_x {l : List Nat} {i x : Nat} (h : l[i]? = some x) : gv (l.take (i + 1)) = x * 10 ^ (9 * i) + gv (l.take i) := by
  have e : BASE ^ i = 10 ^ (9 * i) := by rw [Nat.pow_mul]
  rw [gv_take_of h, e, Nat.mul_comm, Nat.add_comm]
set_option maxHeartbeats 4000000 in
set_option maxRecDepth 100000 in
theorem rwrite_any (neg : Bool) (v : Value) (m base : Nat) (w : World) (h : JMag w base v m) (hm : (grp m).length ≤ 10000) :
    Calls Tryz.prog 184 #[.agg #[.bool neg, v]] w fun e w' => e = .returned (.string ⟨(canon (if neg then -(m : Int) else m)).toArray⟩) ∧ Below w.heap.size w w' := by
  obtain ⟨A, c, rfl⟩ := h.form
  have hcap := jown_cap h
  have x1 := FBox.new w (.bool neg) (.slice A (grp m).length c) 182
  have hb := below_alloc w (.cells #[.bool neg, .slice A (grp m).length c] 182)
  have hown := h.below hb
  have hgv : gv (grp m) = m := gv_grp m
  have hsm := grp_small m
  obtain ⟨n, hn⟩ : ∃ n, n = (grp m).length := ⟨_, rfl⟩
  unfold JMag at hown
  rw [← hn] at x1 hcap hm hown hb ⊢
  obtain ⟨G, hG⟩ : ∃ G, G = grp m := ⟨_, rfl⟩
  rw [← hG] at hgv hsm hown hn
  obtain ⟨W, hW⟩ : ∃ W, W = w.alloc (.cells #[.bool neg, .slice A n c] 182) := ⟨_, rfl⟩
  rw [← hW] at x1 hb hown
  obtain ⟨hc1, hc2⟩ := hcap
  unfold maxLen at hc2
  have HW := Lib.hid hW
  have HV := Lib.hid hgv
  have HSM := Lib.hid hsm
  have HNL := Lib.hid hn
  clear hW hgv hsm hn hG h
  have q0 := x1.c0
  have q1 := x1.c1
  go_enter Tryz.func184, Tryz.ntmps184
  go_wp2_with fail
  rw [← HW.out]
  clear HW
  go_loop [3, 4] (fun tv iv => ∃ (i : Nat) (t : List UInt8), i ≤ n ∧ iv = .int .i64 (i : Int) ∧ tv = .string ⟨t.toArray⟩ ∧ t.length ≤ 100000 ∧ Hid (Dig t (gv (G.take i)) (9 * i))) (fun _ iv => n - (intOf iv).toNat)
  case atStart => exact ⟨0, [], Nat.zero_le _, rfl, rfl, by simp, ⟨rfl, rfl, rfl⟩⟩
  case round =>
    obtain ⟨i, t, hi, rfl, rfl, htl, HT⟩ := hrel
    by_cases hin : i < n
    · obtain ⟨g, x, rfl, hx, hg, hgl, hcell, hfr⟩ := jown_at hown hin
      have hxs := HSM.out x (List.mem_of_getElem? hx)
      have HX := Lib.hid hx
      have HD := Lib.hid (Down.start (N := x) HT.out)
      clear hx hown
      go_wp2_with fail
      go_loop [3, 5, 6] (fun tv nv kv => ∃ (k : Nat) (z : Int) (u : List UInt8), k ≤ 9 ∧ kv = .int .i64 (k : Int) ∧ nv = .int .i64 z ∧ tv = .string ⟨u.toArray⟩ ∧ u.length ≤ 200000 ∧ Hid (Down x k (gv (G.take i)) (9 * i) z u)) (fun _ _ kv => 9 - (intOf kv).toNat)
      case atStart => exact ⟨0, _, t, by omega, rfl, rfl, rfl, by omega, HD⟩
      case round =>
        obtain ⟨k, z, u, hk, rfl, rfl, rfl, hul, HZ⟩ := hrel
        by_cases hk9 : k < 9
        · obtain ⟨d1, d2, d3⟩ := HZ.out.digit
          have hst := HZ.out.step
          obtain ⟨d, hd⟩ : ∃ d, d = z.natAbs % 10 := ⟨_, rfl⟩
          rw [← hd] at d1 d2 hst
          have HE := Lib.hid (enc_pos (x := z.tmod 10) d1 d2)
          have hw : wrap64 (z.tdiv 10) = z.tdiv 10 := down_wrap HZ.out hxs
          rw [← hw] at hst
          have HST := Lib.hid hst
          have hul2 : u.length ≤ 150000 := by rw [d3]; omega
          clear d1 d2 d3 hst hd HZ hw
          go_wp2
          · exfalso
            have hbig : 9223372036854775807 < (Utf8.encode (wrap32 (wrap64 (48 + z.tmod 10)))).size + u.length := by assumption
            rw [HE.out] at hbig
            exact absurd hbig (enc_small2 (c := dg d) hul2)
          · go_round
            case rel => exact ⟨k + 1, _, dg d :: u, by omega, by go_num, rfl, enc_cons HE.out, by simp; omega, HST⟩
            case measure => simp [intOf]; omega
        · obtain rfl : k = 9 := by omega
          have hfin : Dig u (gv (G.take (i + 1))) (9 * (i + 1)) := by
            have h2 := HZ.out.2
            rw [gv_take_x HX.out]
            have e : x % 10 ^ 9 = x := Nat.mod_eq_of_lt hxs
            rw [e] at h2
            exact h2
          have hul2 : u.length ≤ 100000 := by rw [hfin.len]; omega
          have HF := Lib.hid hfin
          clear HZ hfin
          go_wp2
          go_round
          case rel => exact ⟨i + 1, u, by omega, by go_num, rfl, hul2, HF⟩
          case measure => simp [intOf]; omega
    · obtain rfl : i = n := by omega
      have hT : Dig t m (9 * i) := by
        have := HT.out
        rwa [List.take_of_length_le (by rw [← HNL.out]; exact Nat.le_refl _), HV.out] at this
      have hc1 : ∀ w : World, _ := fun w => rcanonical_any t w (by omega)
      have hc2 : ∀ w : World, _ := fun w => rcanonical_any (45 :: t) w (by simp; omega)
      rw [val_dig hT] at hc1
      rw [val_neg_dig hT] at hc2
      have ha := str_add1 45 t (by omega)
      have H1 := Lib.hid hc1
      have H2 := Lib.hid hc2
      clear hT hc1 hc2 HT hown HV HSM HNL
      cases neg
      · clear ha H2
        go_wp2_with (go_at_call 112; refine (H1.out _).mono ?_; rintro e w' ⟨rfl, rfl⟩)
        go_ret
        exact ⟨rfl, hb⟩
      · clear H1
        go_wp2_with (go_at_call 112; refine (H2.out _).mono ?_; rintro e w' ⟨rfl, rfl⟩)
        go_ret
        exact ⟨rfl, hb⟩
end Go.Proofs.YtgnppdkeiihlfaaGreatDoor
/- trancheref01: plus, minus. -/
namespace Go.Proofs.YtgnppdkeiihlfaaGreatDoor
open Go.RowKit Num
theorem gv_take_getD (l : List Nat) (k : Nat) : gv (l.take (k + 1)) = gv (l.take k) + BASE ^ k * l.getD k 0 := by
  rcases Nat.lt_or_ge k l.length with h | h
  · have h1 : l[k]? = some l[k] := List.getElem?_eq_getElem h
    rw [gv_take_of h1, List.getD_eq_getElem?_getD, h1]; rfl
  · rw [gv_take_all h, List.getD_eq_getElem?_getD, List.getElem?_eq_none h]; simp
theorem PlusAt.stepD {l l' ps : List Nat} {k c t : Nat} (h : PlusAt l l' ps k c) (ht : t = l.getD k 0 + l'.getD k 0 + c) : PlusAt l l' (ps ++ [t % BASE]) (k + 1) (t / BASE) := by
  obtain ⟨h1, h2, h3⟩ := h
  refine ⟨by simp [h1], small_snoc h2 (Nat.mod_lt _ (by decide)), ?_⟩
  rw [gv_snoc, h1, gv_take_getD l, gv_take_getD l', Nat.pow_succ, plus_step _ _ t _ (l.getD k 0) (l'.getD k 0) _ h3 (by omega)]
  omega
theorem getD_small {l : List Nat} (h : small l) (k : Nat) : l.getD k 0 ≤ 999999999 := by
  rcases Nat.lt_or_ge k l.length with hk | hk
  · have := h l[k] (List.getElem_mem hk)
    rw [List.getD_eq_getElem?_getD, List.getElem?_eq_getElem hk]
    have e : BASE = 1000000000 := rfl
    show l[k] ≤ _
    omega
  · rw [List.getD_eq_getElem?_getD, List.getElem?_eq_none hk]; simp
theorem getD_none {l : List Nat} {k : Nat} (hk : l.length ≤ k) : l.getD k 0 = 0 := by
  rw [List.getD_eq_getElem?_getD, List.getElem?_eq_none hk]; rfl
theorem jmag_cut {w : World} {base c : Nat} {A : Option Addr} {O : List Nat} {m : Nat} (h : w.ownsRow base 3 1 (.slice A O.length c) O.length (J O)) (hs : small O) (hv : gv O = m) : JMag w base (.slice A (cutZ O).length c) m := by
  have e : cutZ O = grp m := by rw [cutZ_eq O hs, hv]
  have h2 := cutZ_take O
  by_cases hA : A = none
  · subst hA
    rcases h.2 with ⟨hv', h0⟩ | ⟨g, cap, cur, hv', _⟩
    · have : O = [] := List.length_eq_zero_iff.1 h0
      subst this
      unfold JMag
      rw [← e]
      exact h
    · injection hv' with hv'; cases hv'
  · have h3 := jown_take h (k := (cutZ O).length) (by rw [h2]; simp; omega) hA
    unfold JMag
    rw [← e]
    rw [← h2] at h3
    exact h3
set_option maxHeartbeats 1000000 in
set_option maxRecDepth 100000 in
theorem rplus_any (A A' : Option Addr) (n c n' c' a b base base' : Nat) (w : World) (h : w.ownsRow base 3 1 (.slice A n c) n (J (grp a))) (h' : w.ownsRow base' 3 1 (.slice A' n' c') n' (J (grp b)))
    (hn : n ≤ 10000) (hn' : n' ≤ 10000) :
    Calls Tryz.prog 224 #[.slice A n c, .slice A' n' c'] w fun e w' => ∃ v, e = .returned v ∧ JMag w' w.heap.size v (a + b) ∧ Below w.heap.size w w' := by
  obtain ⟨i0, hi, hz0, hz1, hz2⟩ := info_parts jinfo_u64
  have hl := jown_len h
  have hl' := jown_len h'
  have hsa := grp_small a
  have hsb := grp_small b
  have hva := gv_grp a
  have hvb := gv_grp b
  obtain ⟨La, hLa⟩ : ∃ La, La = grp a := ⟨_, rfl⟩
  obtain ⟨Lb, hLb⟩ : ∃ Lb, Lb = grp b := ⟨_, rfl⟩
  rw [← hLa] at h hl hsa hva
  rw [← hLb] at h' hl' hsb hvb
  have hga : ∀ (i : Nat) (w' : World), Below w.heap.size w w' → _ := fun i w' hb => group_ref A n c La i w' base (own_below h hb)
  have hgb : ∀ (i : Nat) (w' : World), Below w.heap.size w w' → _ := fun i w' hb => group_ref A' n' c' Lb i w' base' (own_below h' hb)
  have HGA := Lib.hid hga
  have HGB := Lib.hid hgb
  have HL := Lib.hid hl
  have HL' := Lib.hid hl'
  have HSA := Lib.hid hsa
  have HSB := Lib.hid hsb
  have HVA := Lib.hid hva
  have HVB := Lib.hid hvb
  have hP0 : PlusAt La Lb [] 0 0 := ⟨rfl, fun _ h => absurd h List.not_mem_nil, by simp [gv]⟩
  have hP0 := Lib.hid hP0
  have hr0 : JRow (w.alloc (.cells #[] 3)) w.heap.size [] := heap_alloc_new w _
  have HO := Lib.hid (hr0.own (base := w.heap.size) (n := 0) (Nat.le_refl _) (Nat.zero_le _) (by simp [maxLen]))
  have hb0 := below_alloc w (.cells #[] 3)
  clear hga hgb hl hl' hsa hsb hva hvb hLa hLb h h' hr0
  go_enter Tryz.func224, Tryz.ntmps224
  go_wp2_with fail
  go_loopw [5, 6, 7] (fun ov cv iv wr => ∃ (k cy : Nat) (O : List Nat) (A2 : Option Addr) (c2 : Nat), ov = .slice A2 O.length c2 ∧ cv = .int .i64 (cy : Int) ∧ iv = .int .i64 (k : Int) ∧ cy ≤ 1 ∧ k ≤ max n n' + 1 ∧ (0 < cy → k ≤ max n n') ∧ Hid (O.length = k) ∧ O.length ≤ 20002 ∧
      wr.ownsRow w.heap.size 3 1 (.slice A2 O.length c2) O.length (J O) ∧ Hid (PlusAt La Lb O k cy) ∧ Below w.heap.size w wr) (fun _ _ iv _ => max n n' + 2 - (intOf iv).toNat)
  case atStart => exact ⟨0, 0, [], _, _, rfl, rfl, rfl, by omega, by omega, by omega, rfl, by simp, HO.out, hP0, hb0⟩
  case round =>
    obtain ⟨k, cy, O, A2, c2, rfl, rfl, rfl, hcy, hkm, hcm, HOl, hO2, hown, HP, hbw⟩ := hrel
    clear HO hb0
    by_cases hcont : k < n ∨ k < n' ∨ 0 < cy
    · have hxa := getD_small HSA.out k
      have hyb := getD_small HSB.out k
      have hstep := HP.out.stepD rfl
      have hx0 : n ≤ k → La.getD k 0 = 0 := fun h => getD_none (by rw [HL.out]; exact h)
      have hy0 : n' ≤ k → Lb.getD k 0 = 0 := fun h => getD_none (by rw [HL'.out]; exact h)
      have hca := fun w' hb => HGA.out k w' hb
      have hcb := fun w' hb => HGB.out k w' hb
      obtain ⟨x, hx⟩ : ∃ x, x = La.getD k 0 := ⟨_, rfl⟩
      obtain ⟨y, hy⟩ : ∃ y, y = Lb.getD k 0 := ⟨_, rfl⟩
      rw [← hx] at hxa hstep hx0 hca
      rw [← hy] at hyb hstep hy0 hcb
      obtain ⟨r, hr⟩ : ∃ r : Nat, r = (x + y + cy) % BASE := ⟨_, rfl⟩
      obtain ⟨q, hq⟩ : ∃ q : Nat, q = (x + y + cy) / BASE := ⟨_, rfl⟩
      rw [← hr, ← hq] at hstep
      have eB : BASE = 1000000000 := rfl
      rw [eB] at hr hq
      have er : ((x : Int) + (y : Int) + (cy : Int)) % 1000000000 = (r : Int) := by omega
      have eq : ((x : Int) + (y : Int) + (cy : Int)) / 1000000000 = (q : Int) := by omega
      have q1 : q ≤ 1 := by omega
      have q2 : 0 < q → k < max n n' := fun h => by
        rcases Nat.lt_or_ge k (max n n') with h5 | h5
        · exact h5
        · have := hx0 (by omega); have := hy0 (by omega); omega
      have HS := Lib.hid hstep
      have HCA := Lib.hid hca
      have HCB := Lib.hid hcb
      have HE1 := Lib.hid er
      have HE2 := Lib.hid eq
      have HQ := Lib.hid q2
      have HCM := Lib.hid hcm
      clear hstep hca hcb hx hy hx0 hy0 er eq q2 eB HP hcm HGA HGB
      have hx1 : x ≤ 999999999 := hxa
      have hnk : k ≤ 20000 := by omega
      have hsz := hbw.size
      clear hr hq
      by_cases k1 : k < n
      · have d1 : decide (k < n) = true := decide_eq_true k1
        go_wp2_with (first
          | (go_at_call 256; (with_reducible refine (HCA.out _ hbw).mono ?_); rintro e w' ⟨rfl, rfl⟩)
          | (go_at_call 256; (with_reducible refine (HCB.out _ hbw).mono ?_); rintro e w' ⟨rfl, rfl⟩)
          | (at_builtin; refine wpList_append_own _ rfl _ _ 180 rfl w.heap.size 3 i0 (.int .i64 0) 1 8 Tryz.underlying180 hi hz0 hz1 hz2 rfl (by decide) _ _ _ rfl (hown.alloc _) ⟨wr.heap.size, 0, none⟩ 1 1 [.int .i64 (((x : Int) + (y : Int) + (cy : Int)) % 1000000000)] rfl rfl ?c1a ?c2a ?c3a ?c4a ?c5a ?_))
        try (case c1a => exact cell_one_new _ _ _)
        case c2a => first | rfl | (intro u hu; simp at hu; subst hu; rfl)
        case c3a => unfold maxLen; omega
        case c4a => omega
        case c5a => first | omega | (simp; omega)
        intro v' w3 hown' hgrow _
        have hb3 : Below w.heap.size w w3 := (hbw.alloc hbw.size _).grown hgrow (by have := hbw.size; simp; omega) (own_block_ge hown)
        rw [HE1.out] at hown'
        obtain ⟨A', c', rfl⟩ := own_form hown'
        clear hown hgrow hbw
        go_wp2
        go_roundw
        case rel => exact ⟨k + 1, q, O ++ [r], A', c', by simp, by first | rfl | (rw [HE2.out]), by go_num, q1, by omega, by have := HQ.out; omega, by have := HOl.out; show _ = _; simp; omega, by have := HOl.out; simp; omega, by simpa using hown', HS, hb3⟩
        case measure => simp [intOf]; omega
      · have d1 : decide (k < n) = false := decide_eq_false k1
        by_cases k2 : k < n'
        · have d2 : decide (k < n') = true := decide_eq_true k2
          go_wp2_with (first
            | (go_at_call 256; (with_reducible refine (HCA.out _ hbw).mono ?_); rintro e w' ⟨rfl, rfl⟩)
            | (go_at_call 256; (with_reducible refine (HCB.out _ hbw).mono ?_); rintro e w' ⟨rfl, rfl⟩)
            | (at_builtin; refine wpList_append_own _ rfl _ _ 180 rfl w.heap.size 3 i0 (.int .i64 0) 1 8 Tryz.underlying180 hi hz0 hz1 hz2 rfl (by decide) _ _ _ rfl (hown.alloc _) ⟨wr.heap.size, 0, none⟩ 1 1 [.int .i64 (((x : Int) + (y : Int) + (cy : Int)) % 1000000000)] rfl rfl ?c1b ?c2b ?c3b ?c4b ?c5b ?_))
          try (case c1b => exact cell_one_new _ _ _)
          case c2b => first | rfl | (intro u hu; simp at hu; subst hu; rfl)
          case c3b => unfold maxLen; omega
          case c4b => omega
          case c5b => first | omega | (simp; omega)
          intro v' w3 hown' hgrow _
          have hb3 : Below w.heap.size w w3 := (hbw.alloc hbw.size _).grown hgrow (by have := hbw.size; simp; omega) (own_block_ge hown)
          rw [HE1.out] at hown'
          obtain ⟨A', c', rfl⟩ := own_form hown'
          clear hown hgrow hbw
          go_wp2
          go_roundw
          case rel => exact ⟨k + 1, q, O ++ [r], A', c', by simp, by first | rfl | (rw [HE2.out]), by go_num, q1, by omega, by have := HQ.out; omega, by have := HOl.out; show _ = _; simp; omega, by have := HOl.out; simp; omega, by simpa using hown', HS, hb3⟩
          case measure => simp [intOf]; omega
        · have d2 : decide (k < n') = false := decide_eq_false k2
          have k3 : 0 < cy := by omega
          have k4 := HCM.out k3
          have d3 : decide ((0 : Int) < (cy : Int)) = true := decide_eq_true (by omega)
          go_wp2_with (first
            | (go_at_call 256; (with_reducible refine (HCA.out _ hbw).mono ?_); rintro e w' ⟨rfl, rfl⟩)
            | (go_at_call 256; (with_reducible refine (HCB.out _ hbw).mono ?_); rintro e w' ⟨rfl, rfl⟩)
            | (at_builtin; refine wpList_append_own _ rfl _ _ 180 rfl w.heap.size 3 i0 (.int .i64 0) 1 8 Tryz.underlying180 hi hz0 hz1 hz2 rfl (by decide) _ _ _ rfl (hown.alloc _) ⟨wr.heap.size, 0, none⟩ 1 1 [.int .i64 (((x : Int) + (y : Int) + (cy : Int)) % 1000000000)] rfl rfl ?c1c ?c2c ?c3c ?c4c ?c5c ?_))
          try (case c1c => exact cell_one_new _ _ _)
          case c2c => first | rfl | (intro u hu; simp at hu; subst hu; rfl)
          case c3c => unfold maxLen; omega
          case c4c => omega
          case c5c => first | omega | (simp; omega)
          intro v' w3 hown' hgrow _
          have hb3 : Below w.heap.size w w3 := (hbw.alloc hbw.size _).grown hgrow (by have := hbw.size; simp; omega) (own_block_ge hown)
          rw [HE1.out] at hown'
          obtain ⟨A', c', rfl⟩ := own_form hown'
          clear hown hgrow hbw
          go_wp2
          go_roundw
          case rel => exact ⟨k + 1, q, O ++ [r], A', c', by simp, by first | rfl | (rw [HE2.out]), by go_num, q1, by omega, by have := HQ.out; omega, by have := HOl.out; show _ = _; simp; omega, by have := HOl.out; simp; omega, by simpa using hown', HS, hb3⟩
          case measure => simp [intOf]; omega
    · have k1 : ¬ k < n := fun e => hcont (.inl e)
      have k2 : ¬ k < n' := fun e => hcont (.inr (.inl e))
      obtain rfl : cy = 0 := by omega
      have d1 : decide (k < n) = false := decide_eq_false k1
      have d2 : decide (k < n') = false := decide_eq_false k2
      have hfin : gv O = a + b := by
        have h3 := HP.out.2.2
        rw [List.take_of_length_le (by rw [HL.out]; omega), List.take_of_length_le (by rw [HL'.out]; omega), HVA.out, HVB.out] at h3
        simpa using h3
      have HF := Lib.hid (jmag_cut hown HP.out.2.1 hfin)
      have ht : ∀ w' : World, w' = wr → _ := fun w' e => by subst e; exact trim_ref A2 O.length c2 O w' w.heap.size hown
      have HT := Lib.hid (trim_ref A2 O.length c2 O wr w.heap.size hown)
      clear hfin ht hown HP HGA HGB hcm hcont
      go_wp2_with (go_at_call 257; refine HT.out.mono ?_; rintro e w' ⟨rfl, rfl⟩)
      go_ret
      exact ⟨_, rfl, HF.out, hbw⟩
end Go.Proofs.YtgnppdkeiihlfaaGreatDoor
/- trancheref01: minus. -/
namespace Go.Proofs.YtgnppdkeiihlfaaGreatDoor
open Go.RowKit Num
def SubAt (l l' O : List Nat) (k br : Nat) : Prop := O.length = k ∧ small O ∧ gv O + gv (l'.take k) = gv (l.take k) + BASE ^ k * br
theorem SubAt.step {l l' O : List Nat} {k br x y d br' : Nat} (h : SubAt l l' O k br) (hx : l[k]? = some x) (hy : l'.getD k 0 = y) (hd : d < 1000000000) (he : d + y + br = x + 1000000000 * br') : SubAt l l' (O ++ [d]) (k + 1) br' := by
  obtain ⟨h1, h2, h3⟩ := h
  refine ⟨by simp [h1], small_snoc h2 hd, ?_⟩
  rw [gv_snoc, h1, gv_take_getD l', gv_take_of hx, hy, Nat.pow_succ]
  have e : BASE ^ k * (d + y + br) = BASE ^ k * (x + 1000000000 * br') := by rw [he]
  have eB : BASE = 1000000000 := rfl
  rw [Nat.mul_add, Nat.mul_add, Nat.mul_add, ← Nat.mul_assoc] at e
  rw [← eB] at e
  omega
theorem own_some {w : World} {base n : Nat} {e : TypeId} {v : Value} {xs : List Value} (h : w.ownsRow base e 1 v n xs) (hv : v ≠ .slice none 0 0) : ∃ g c, v = .slice (some ⟨g, 0, none⟩) n c := by
  rcases h.2 with ⟨rfl, h0⟩ | ⟨g, cap, cur, rfl, _⟩
  · exact absurd rfl hv
  · exact ⟨g, cap, rfl⟩
theorem below_drew_group {w w' : World} (h : w = w') : Below w.heap.size w w' := by subst h; exact Below.refl _ _
theorem bto' {w w1 w2 : World} (h : Below w.heap.size w w1) (k : Below w1.heap.size w1 w2) : Below w.heap.size w w2 := bto h k
set_option maxHeartbeats 2000000 in
set_option maxRecDepth 100000 in
theorem rminus_some (A A' : Option Addr) (n c n' c' a b base base' : Nat) (w : World) (h : w.ownsRow base 3 1 (.slice A n c) n (J (grp a))) (h' : w.ownsRow base' 3 1 (.slice A' n' c') n' (J (grp b)))
    (hn : n ≤ 10000) (hab : b ≤ a) :
    Calls Tryz.prog 226 #[.slice A n c, .slice A' n' c'] w fun e w' => ∃ g c, e = .returned (.slice (some ⟨g, 0, none⟩) (grp (a - b)).length c) ∧ JMag w' w.heap.size (.slice (some ⟨g, 0, none⟩) (grp (a - b)).length c) (a - b) ∧ Below w.heap.size w w' := by
  obtain ⟨i0, hi, hz0, hz1, hz2⟩ := info_parts jinfo_u64
  have hl := jown_len h
  have hl' := jown_len h'
  have hcap := jown_cap h
  have hll := grp_len_mono b a hab
  have hsa := grp_small a
  have hsb := grp_small b
  have hva := gv_grp a
  have hvb := gv_grp b
  obtain ⟨La, hLa⟩ : ∃ La, La = grp a := ⟨_, rfl⟩
  obtain ⟨Lb, hLb⟩ : ∃ Lb, Lb = grp b := ⟨_, rfl⟩
  rw [← hLa] at h hl hsa hva hll
  rw [← hLb] at h' hl' hsb hvb hll
  have hgb : ∀ (i : Nat) (w' : World), Below w.heap.size w w' → Calls Tryz.prog 256 #[.slice A' n' c', .int .i64 (i : Int)] w' fun e w'' => e = .returned (.int .i64 ((Lb.getD i 0 : Nat) : Int)) ∧ Below w'.heap.size w' w'' :=
    fun i w' hb => (group_ref A' n' c' Lb i w' base' (own_below h' hb)).mono fun _ _ ⟨he, hw⟩ => ⟨he, below_drew_group hw⟩
  have HGB := Lib.hid hgb
  have HL := Lib.hid hl
  have HL' := Lib.hid hl'
  have HLL := Lib.hid hll
  have HSA := Lib.hid hsa
  have HSB := Lib.hid hsb
  have HVA := Lib.hid hva
  have HVB := Lib.hid hvb
  have HA := Lib.hid h
  have hP0 : SubAt La Lb [] 0 0 := ⟨rfl, fun _ h => absurd h List.not_mem_nil, by simp [gv]⟩
  have hP0 := Lib.hid hP0
  have hr0 : JRow (w.alloc (.cells #[] 3)) w.heap.size [] := heap_alloc_new w _
  have HO := Lib.hid (hr0.own (base := w.heap.size) (n := 0) (Nat.le_refl _) (Nat.zero_le _) (by simp [maxLen]))
  have hb0 := below_alloc w (.cells #[] 3)
  obtain ⟨hc1, hc2⟩ := hcap
  unfold maxLen at hc2
  clear hgb hl hl' hll hsa hsb hva hvb hLa hLb h h' hr0
  go_enter Tryz.func226, Tryz.ntmps226
  go_wp2_with fail
  go_loopw [5, 6, 7] (fun ov cv iv wr => ∃ (k br : Nat) (O : List Nat) (g2 c2 : Nat), ov = .slice (some ⟨g2, 0, none⟩) O.length c2 ∧ cv = .int .i64 (br : Int) ∧ iv = .int .i64 (k : Int) ∧ br ≤ 1 ∧ k ≤ n ∧ Hid (O.length = k) ∧ O.length ≤ 20002 ∧
      wr.ownsRow w.heap.size 3 1 (.slice (some ⟨g2, 0, none⟩) O.length c2) O.length (J O) ∧ Hid (SubAt La Lb O k br) ∧ Below w.heap.size w wr) (fun _ _ iv _ => n - (intOf iv).toNat)
  case atStart => exact ⟨0, 0, [], _, _, rfl, rfl, rfl, by omega, by omega, rfl, by simp, HO.out, hP0, hb0⟩
  case round =>
    obtain ⟨k, br, O, g2, c2, rfl, rfl, rfl, hbr, hkn, HOl, hO2, hown, HP, hbw⟩ := hrel
    clear HO hb0 hP0
    by_cases hlt : k < n
    · obtain ⟨g, x, rfl, hx, hg, hgl, hcell, hfr⟩ := jown_at HA.out hlt
      have hcell := (hbw.cell (p := ⟨g, k, none⟩) hgl).trans hcell
      have hxs := HSA.out x (List.mem_of_getElem? hx)
      have hys := getD_small HSB.out k
      have hcb := fun w' hb => HGB.out k w' hb
      obtain ⟨y, hy⟩ : ∃ y, y = Lb.getD k 0 := ⟨_, rfl⟩
      rw [← hy] at hys hcb
      have HX := Lib.hid hx
      have HY := Lib.hid hy.symm
      have HCB := Lib.hid hcb
      have eB : BASE = 1000000000 := rfl
      rw [eB] at hxs
      have w1 : IntKind.i64.wrap ((x : Int) - (y : Int)) = (x : Int) - (y : Int) := IntWalk.i64_in _ (by omega)
      have w2 : IntKind.i64.wrap ((x : Int) - (y : Int) - (br : Int)) = (x : Int) - (y : Int) - (br : Int) := IntWalk.i64_in _ (by omega)
      have j1 : (0 : Int) ≤ (k : Int) := by omega
      have j2 : (k : Int) < (n : Int) := by omega
      clear hx hy hcb eB HGB hg hfr
      go_wp2_with fail
      refine wp_region_kept (by kernel_rfl) (by kernel_rfl) ?_
      iterate 3
        refine kept_val _ (fun _ => rfl) (fun ρ w' hw => by go_simp; first | done | with_reducible rfl) ?_
        simp only [Act.put, List.setIfInBounds_toArray, List.set_cons_zero, List.set_cons_succ, Nat.reduceAdd]
      refine kept_val _ (fun _ => rfl) (fun ρ w' hw => by have q := (hw.cell (p := ⟨g, k, none⟩) (Nat.lt_of_lt_of_le hgl hbw.size)).trans hcell; go_simp; first | done | with_reducible rfl) ?_
      iterate 2
        simp only [Act.put, List.setIfInBounds_toArray, List.set_cons_zero, List.set_cons_succ, Nat.reduceAdd]
        refine kept_val _ (fun _ => rfl) (fun ρ w' hw => by go_simp; first | done | with_reducible rfl) ?_
      simp only [Act.put, List.setIfInBounds_toArray, List.set_cons_zero, List.set_cons_succ, Nat.reduceAdd]
      refine kept_call _ _ _ (fun _ => rfl) (fun ρ w' hw => by go_simp; first | done | with_reducible rfl) (fun w' hw => HCB.out _ (bto' hbw hw)) ?_
      iterate 4
        simp only [Act.put, List.setIfInBounds_toArray, List.set_cons_zero, List.set_cons_succ, Nat.reduceAdd]
        refine kept_val _ (fun _ => rfl) (fun ρ w' hw => by go_simp; first | done | with_reducible rfl) ?_
      simp only [Act.put, List.setIfInBounds_toArray, List.set_cons_zero, List.set_cons_succ, Nat.reduceAdd]
      refine kept_end (fun ρ w2 hF => ?_)
      have hb2 := bto hbw hF.below
      have hown2 := own_below hown hF.below
      have hsz := hb2.size
      clear hF w1 hcell hown hbw
      rename IntKind.i64.wrap _ = _ => w2'
      clear w2'
      by_cases hneg : x < y + br
      · have d1 : decide ((x : Int) - (y : Int) - (br : Int) < 0) = true := decide_eq_true (by omega)
        have d2 : (x : Int) - (y : Int) - (br : Int) < 0 := by omega
        obtain ⟨d, hd⟩ : ∃ d : Nat, d = x + 1000000000 - y - br := ⟨_, rfl⟩
        have hd1 : ((x : Int) - (y : Int) - (br : Int)) + 1000000000 = (d : Int) := by omega
        have hdB : d < 1000000000 := by omega
        have HS := Lib.hid (HP.out.step (x := x) (y := y) (d := d) (br' := 1) HX.out HY.out hdB (by omega))
        have HE := Lib.hid hd1
        clear hd hd1 hdB HP
        go_wp2_with (at_builtin; refine wpList_append_own _ rfl _ _ 180 rfl w.heap.size 3 i0 (.int .i64 0) 1 8 Tryz.underlying180 hi hz0 hz1 hz2 rfl (by decide) _ _ _ rfl (hown2.alloc _) ⟨w2.heap.size, 0, none⟩ 1 1 [.int .i64 (((x : Int) - (y : Int) - (br : Int)) + 1000000000)] rfl rfl ?c1a ?c2a ?c3a ?c4a ?c5a ?_)
        try (case c1a => exact cell_one_new _ _ _)
        case c2a => first | rfl | (intro u hu; simp at hu; subst hu; rfl)
        case c3a => unfold maxLen; omega
        case c4a => omega
        case c5a => first | omega | (simp; omega)
        intro v' w3 hown' hgrow hnil
        have hb3 : Below w.heap.size w w3 := (hb2.alloc hb2.size _).grown hgrow (by have := hb2.size; simp; omega) (own_block_ge hown2)
        rw [HE.out] at hown'
        obtain ⟨g3, c3, rfl⟩ := own_some hown' hnil
        clear hown2 hgrow hb2
        go_wp2
        go_roundw
        case rel => exact ⟨k + 1, 1, O ++ [d], g3, c3, by simp, rfl, by go_num, by omega, by omega, by have := HOl.out; show _ = _; simp; omega, by have := HOl.out; simp; omega, by simpa using hown', HS, hb3⟩
        case measure => simp [intOf]; omega
      · have d1 : decide ((x : Int) - (y : Int) - (br : Int) < 0) = false := decide_eq_false (by omega)
        have d2 : 0 ≤ (x : Int) - (y : Int) - (br : Int) := by omega
        obtain ⟨d, hd⟩ : ∃ d : Nat, d = x - y - br := ⟨_, rfl⟩
        have hd1 : (x : Int) - (y : Int) - (br : Int) = (d : Int) := by omega
        have hdB : d < 1000000000 := by omega
        have HS := Lib.hid (HP.out.step (x := x) (y := y) (d := d) (br' := 0) HX.out HY.out hdB (by omega))
        have HE := Lib.hid hd1
        clear hd hd1 hdB HP
        go_wp2_with (at_builtin; refine wpList_append_own _ rfl _ _ 180 rfl w.heap.size 3 i0 (.int .i64 0) 1 8 Tryz.underlying180 hi hz0 hz1 hz2 rfl (by decide) _ _ _ rfl (hown2.alloc _) ⟨w2.heap.size, 0, none⟩ 1 1 [.int .i64 ((x : Int) - (y : Int) - (br : Int))] rfl rfl ?c1b ?c2b ?c3b ?c4b ?c5b ?_)
        try (case c1b => exact cell_one_new _ _ _)
        case c2b => first | rfl | (intro u hu; simp at hu; subst hu; rfl)
        case c3b => unfold maxLen; omega
        case c4b => omega
        case c5b => first | omega | (simp; omega)
        intro v' w3 hown' hgrow hnil
        have hb3 : Below w.heap.size w w3 := (hb2.alloc hb2.size _).grown hgrow (by have := hb2.size; simp; omega) (own_block_ge hown2)
        rw [HE.out] at hown'
        obtain ⟨g3, c3, rfl⟩ := own_some hown' hnil
        clear hown2 hgrow hb2
        go_wp2
        go_roundw
        case rel => exact ⟨k + 1, 0, O ++ [d], g3, c3, by simp, rfl, by go_num, by omega, by omega, by have := HOl.out; show _ = _; simp; omega, by have := HOl.out; simp; omega, by simpa using hown', HS, hb3⟩
        case measure => simp [intOf]; omega
    · obtain rfl : k = n := by omega
      have hfin : gv O = a - b := by
        obtain ⟨p1, p2, p3⟩ := HP.out
        have p4 := gv_lt O p2
        rw [p1] at p4
        have h4 := HLL.out
        rw [HL.out, HL'.out] at h4
        rw [List.take_of_length_le (by rw [HL'.out]; omega), List.take_of_length_le (by rw [HL.out]; omega), HVA.out, HVB.out] at p3
        have : br = 0 ∨ br = 1 := by omega
        rcases this with rfl | rfl
        · omega
        · omega
      have HF := Lib.hid (jmag_cut hown HP.out.2.1 hfin)
      have HCL : Hid ((cutZ O).length = (grp (a - b)).length) := by show _ = _; rw [cutZ_eq O HP.out.2.1, hfin]
      have HT := Lib.hid (trim_ref (some ⟨g2, 0, none⟩) O.length c2 O wr w.heap.size hown)
      clear hfin hown HP HGB
      go_wp2_with (go_at_call 257; refine HT.out.mono ?_; rintro e w' ⟨rfl, rfl⟩)
      go_ret
      have hcl : (cutZ O).length = (grp (a - b)).length := HCL.out
      rw [hcl] at HF
      exact ⟨g2, c2, by rw [← hcl]; rfl, HF.out, hbw⟩
theorem rminus_any (A A' : Option Addr) (n c n' c' a b base base' : Nat) (w : World) (h : w.ownsRow base 3 1 (.slice A n c) n (J (grp a))) (h' : w.ownsRow base' 3 1 (.slice A' n' c') n' (J (grp b)))
    (hn : n ≤ 10000) (hab : b ≤ a) :
    Calls Tryz.prog 226 #[.slice A n c, .slice A' n' c'] w fun e w' => ∃ v, e = .returned v ∧ JMag w' w.heap.size v (a - b) ∧ Below w.heap.size w w' :=
  (rminus_some A A' n c n' c' a b base base' w h h' hn hab).mono fun _ _ ⟨_, _, h1, h2, h3⟩ => ⟨_, h1, h2, h3⟩
end Go.Proofs.YtgnppdkeiihlfaaGreatDoor
/- trancheref01: times. -/
namespace Go.Proofs.YtgnppdkeiihlfaaGreatDoor
open Go.RowKit Num
def MulAt (l l' R : List Nat) (i k x c : Nat) : Prop := R.length = l.length + l'.length ∧ small R ∧ c < BASE ∧ gv R + BASE ^ (i + k) * c = gv (l.take i) * gv l' + BASE ^ i * (x * gv (l'.take k))
theorem MulAt.step {l l' R : List Nat} {i k x c o y : Nat} (h : MulAt l l' R i k x c) (ho : R[i + k]? = some o) (hy : l'.getD k 0 = y) (hxb : x < BASE) (hyb : y < BASE) :
    MulAt l l' (R.set (i + k) ((o + x * y + c) % BASE)) i (k + 1) x ((o + x * y + c) / BASE) := by
  obtain ⟨h1, h2, h3, h4⟩ := h
  have hob : o < BASE := h2 o (List.mem_of_getElem? ho)
  have hxy := mul_lt_base2 hxb hyb
  refine ⟨by simp [h1], small_set h2 (Nat.mod_lt _ (by decide)), ?_, ?_⟩
  · apply Nat.div_lt_of_lt_mul; unfold BASE at *; omega
  · have hs := gv_set ho ((o + x * y + c) % BASE)
    rw [gv_take_getD, hy]
    have e1 : BASE ^ (i + (k + 1)) * ((o + x * y + c) / BASE) + BASE ^ (i + k) * ((o + x * y + c) % BASE) = BASE ^ (i + k) * (o + x * y + c) := by
      rw [show i + (k + 1) = (i + k) + 1 by omega, Nat.pow_succ, Nat.mul_assoc, ← Nat.mul_add, Nat.div_add_mod]
    have e2 : BASE ^ i * (x * (gv (l'.take k) + BASE ^ k * y)) = BASE ^ i * (x * gv (l'.take k)) + BASE ^ (i + k) * (x * y) := by
      rw [Nat.mul_add x, Nat.mul_add, Nat.pow_add, Nat.mul_assoc]
      congr 1
      rw [← Nat.mul_assoc x, Nat.mul_comm x, Nat.mul_assoc]
    have e3 : BASE ^ (i + k) * (o + x * y + c) = BASE ^ (i + k) * o + BASE ^ (i + k) * (x * y) + BASE ^ (i + k) * c := by rw [Nat.mul_add, Nat.mul_add]
    omega
theorem MulAt.over {l l' R : List Nat} {i k x c : Nat} (h : MulAt l l' R i k x c) (hx : l[i]? = some x) (hl : small l) (hl' : small l') (hk : l'.length < k) : c = 0 := by
  obtain ⟨h1, h2, h3, h4⟩ := h
  have e0 : l'.take k = l' := List.take_of_length_le (by omega)
  rw [e0] at h4
  have e : gv (l.take i) * gv l' + BASE ^ i * (x * gv l') = gv (l.take (i + 1)) * gv l' := by rw [gv_take_of hx, Nat.add_mul, Nat.mul_assoc]
  rw [e] at h4
  have b1 := gv_lt (l.take (i + 1)) (small_take hl _)
  have b2 := gv_lt l' hl'
  have b3 : (l.take (i + 1)).length ≤ i + 1 := List.length_take_le _ _
  have b4 : BASE ^ (l.take (i + 1)).length ≤ BASE ^ (i + 1) := Nat.pow_le_pow_right (by decide) b3
  have b5 : gv (l.take (i + 1)) * gv l' ≤ BASE ^ (i + 1) * BASE ^ l'.length := Nat.mul_le_mul (by omega) (by omega)
  have b5' : gv (l.take (i + 1)) * gv l' < BASE ^ (i + 1) * BASE ^ l'.length := Nat.mul_lt_mul'' (by omega) b2
  rw [← Nat.pow_add] at b5'
  have b6 : BASE ^ (i + 1 + l'.length) ≤ BASE ^ (i + k) := Nat.pow_le_pow_right (by decide) (by omega)
  rcases Nat.eq_zero_or_pos c with h0 | h0
  · exact h0
  · have : BASE ^ (i + k) * 1 ≤ BASE ^ (i + k) * c := Nat.mul_le_mul_left _ h0
    omega
theorem MulAt.leave {l l' R : List Nat} {i k x : Nat} (h : MulAt l l' R i k x 0) (hx : l[i]? = some x) (hk : l'.length ≤ k) : R.length = l.length + l'.length ∧ small R ∧ gv R = gv (l.take (i + 1)) * gv l' := by
  obtain ⟨h1, h2, h3, h4⟩ := h
  have e0 : l'.take k = l' := List.take_of_length_le hk
  rw [e0] at h4
  exact ⟨h1, h2, by rw [gv_take_of hx, Nat.add_mul, Nat.mul_assoc]; omega⟩
def MulOut (l l' R : List Nat) (i : Nat) : Prop := R.length = l.length + l'.length ∧ small R ∧ gv R = gv (l.take i) * gv l'
set_option maxHeartbeats 2000000 in
set_option maxRecDepth 100000 in
theorem rtimes_any (A A' : Option Addr) (n c n' c' a b base base' : Nat) (w : World) (h : w.ownsRow base 3 1 (.slice A n c) n (J (grp a))) (h' : w.ownsRow base' 3 1 (.slice A' n' c') n' (J (grp b)))
    (hn : n ≤ 10000) (hn' : n' ≤ 10000) :
    Calls Tryz.prog 210 #[.slice A n c, .slice A' n' c'] w fun e w' => ∃ v, e = .returned v ∧ JMag w' w.heap.size v (a * b) ∧ Below w.heap.size w w' := by
  have hl := jown_len h
  have hl' := jown_len h'
  have hcap := jown_cap h
  have hsa := grp_small a
  have hsb := grp_small b
  have hva := gv_grp a
  have hvb := gv_grp b
  obtain ⟨La, hLa⟩ : ∃ La, La = grp a := ⟨_, rfl⟩
  obtain ⟨Lb, hLb⟩ : ∃ Lb, Lb = grp b := ⟨_, rfl⟩
  rw [← hLa] at h hl hsa hva
  rw [← hLb] at h' hl' hsb hvb
  have hgb : ∀ (i : Nat) (w' : World), Below w.heap.size w w' → Calls Tryz.prog 256 #[.slice A' n' c', .int .i64 (i : Int)] w' fun e w'' => e = .returned (.int .i64 ((Lb.getD i 0 : Nat) : Int)) ∧ Below w'.heap.size w' w'' :=
    fun i w' hb => (group_ref A' n' c' Lb i w' base' (own_below h' hb)).mono fun _ _ ⟨he, hw⟩ => ⟨he, below_drew_group hw⟩
  have HGB := Lib.hid hgb
  have HL := Lib.hid hl
  have HL' := Lib.hid hl'
  have HSA := Lib.hid hsa
  have HSB := Lib.hid hsb
  have HVA := Lib.hid hva
  have HVB := Lib.hid hvb
  have HA := Lib.hid h
  obtain ⟨hc1, hc2⟩ := hcap
  unfold maxLen at hc2
  have hM0 : MulOut La Lb (List.replicate (n + n') 0) 0 := ⟨by simp [hl, hl'], fun x hx => by have := List.eq_of_mem_replicate hx; subst this; decide, by rw [gv_zeros]; simp [gv]⟩
  have HM0 := Lib.hid hM0
  have hmk : ∀ W : World, (Instr.makeSlice 180 (.int .i64 ((n : Int) + n')) (.int .i64 ((n : Int) + n'))).run Tryz.prog W = .ok (.slice (some ⟨W.heap.size, 0, none⟩) (n + n') (n + n')) (W.alloc (jzrow (n + n'))) := fun W => by
    have := jmake_u64 180 Tryz.underlying180 (n + n') (n + n') ((n + n' : Nat) : Int) rfl (Nat.le_refl _) (by omega) W
    rw [Int.natCast_add] at this
    exact this
  have HR0 := Lib.hid (jzrow_row w (n + n'))
  have hb0 := below_alloc w (jzrow (n + n'))
  clear hgb hl hl' hsa hsb hva hvb hLa hLb h h' hM0
  go_enter Tryz.func210, Tryz.ntmps210
  go_wp2_with fail
  clear hmk
  go_loopw [6] (fun iv wr => ∃ (i : Nat) (R : List Nat), i ≤ n ∧ iv = .int .i64 (i : Int) ∧ Hid (MulOut La Lb R i) ∧ JRow wr w.heap.size R ∧ Below w.heap.size w wr) (fun iv _ => n - (intOf iv).toNat)
  case atStart => exact ⟨0, _, by omega, rfl, HM0, HR0.out, hb0⟩
  case round =>
    obtain ⟨i, R, hi, rfl, HT, hrow, hbw⟩ := hrel
    clear HM0 HR0 hb0
    by_cases hin : i < n
    · obtain ⟨g, x, rfl, hx, hg, hgl, hcell0, hfr⟩ := jown_at HA.out hin
      have hxs : x < 1000000000 := HSA.out x (List.mem_of_getElem? hx)
      have HX := Lib.hid hx
      have HE : Hid (MulAt La Lb R i 0 x 0) := ⟨HT.out.1, HT.out.2.1, by decide, by rw [HT.out.2.2]; simp [gv]⟩
      have HC := Lib.hid hcell0
      have HR := Lib.hid hrow
      clear hx hcell0 hrow hg hfr HT
      go_wp2_with fail
      obtain ⟨wo, hwo⟩ : ∃ wo : World, wo = wr := ⟨_, rfl⟩
      subst hwo
      go_loopw [7, 8] (fun cv kv wr => ∃ (k cy : Nat) (R : List Nat), k ≤ n' + 1 ∧ kv = .int .i64 (k : Int) ∧ cv = .int .i64 (cy : Int) ∧ cy < 1000000000 ∧ (0 < cy → k ≤ n') ∧ Hid (MulAt La Lb R i k x cy) ∧ JRow wr w.heap.size R ∧ Below w.heap.size w wr) (fun _ kv _ => n' + 1 - (intOf kv).toNat)
      case atStart => exact ⟨0, 0, R, by omega, rfl, rfl, by omega, by omega, HE, HR.out, hbw⟩
      case round =>
        clear hbw HR HE
        obtain ⟨k, cy, R, hk, rfl, rfl, hcy, hcm, HT, hrow, hbw⟩ := hrel
        by_cases hcont : k < n' ∨ 0 < cy
        · have hkn : k ≤ n' := by omega
          have hRl := HT.out.1
          rw [HL.out, HL'.out] at hRl
          obtain ⟨o, ho⟩ : ∃ o, R[i + k]? = some o := ⟨_, List.getElem?_eq_getElem (by omega)⟩
          have hob : o < 1000000000 := HT.out.2.1 o (List.mem_of_getElem? ho)
          have hco := hrow.cell ho
          have hfo := hrow.frozen (i + k)
          have hys := getD_small HSB.out k
          have hcb := fun w' hb => HGB.out k w' hb
          obtain ⟨y, hy⟩ : ∃ y, y = Lb.getD k 0 := ⟨_, rfl⟩
          rw [← hy] at hys hcb
          have hst := HT.out.step ho hy.symm hxs (by have e : BASE = 1000000000 := rfl; omega)
          have hov : n' < k + 1 → (o + x * y + cy) / BASE = 0 := fun h => hst.over HX.out HSA.out HSB.out (by rw [HL'.out]; exact h)
          have hxy := mul_lt_base2 hxs (show y < 1000000000 by omega)
          obtain ⟨p, hp⟩ : ∃ p, p = x * y := ⟨_, rfl⟩
          rw [← hp] at hst hov hxy
          have hpc : (x : Int) * (y : Int) = (p : Int) := by rw [hp]; rfl
          have hcell := (hbw.cell (p := ⟨g, i, none⟩) hgl).trans HC.out
          have HCB := Lib.hid hcb
          have HST := Lib.hid hst
          have HOV := Lib.hid hov
          have HR := Lib.hid hrow
          have hrowlt : w.heap.size < wr.heap.size := hrow.lt
          have w1 : IntKind.i64.wrap ((i : Int) + (k : Int)) = (i : Int) + (k : Int) := IntWalk.i64_in _ (by omega)
          have w2 : IntKind.i64.wrap (p : Int) = (p : Int) := IntWalk.i64_in _ (by omega)
          have w3 : IntKind.i64.wrap ((o : Int) + (p : Int)) = (o : Int) + (p : Int) := IntWalk.i64_in _ (by omega)
          have w4 : IntKind.i64.wrap ((o : Int) + (p : Int) + (cy : Int)) = (o : Int) + (p : Int) + (cy : Int) := IntWalk.i64_in _ (by omega)
          have t1 : ((i : Int) + (k : Int)).toNat = i + k := by omega
          have j1 : (0 : Int) ≤ (i : Int) + (k : Int) := by omega
          have j2 : (i : Int) + (k : Int) < ((n : Int) + (n' : Int)) := by omega
          have j3 : (i : Int) < (n : Int) := by omega
          clear hy hp hst hov hcb hrow ho HT HGB hcm hRl
          have d0 : decide (k < n') = true ∨ (decide (k < n') = false ∧ decide ((0 : Int) < (cy : Int)) = true ∧ 0 < cy ∧ ¬ k < n') := by
            by_cases h : k < n'
            · exact .inl (decide_eq_true h)
            · exact .inr ⟨decide_eq_false h, decide_eq_true (by omega), by omega, h⟩
          clear hcont
          rcases d0 with d1 | ⟨d1, d2, d3, d4⟩
          · have kx : True := trivial
            clear kx
            go_wp2_with fail
            refine wp_region_kept (by kernel_rfl) (by kernel_rfl) ?_
            iterate 5
              refine kept_val _ (fun _ => rfl) (fun ρ w' hw => by go_simp; first | done | with_reducible rfl) ?_
              simp only [Act.put, List.setIfInBounds_toArray, List.set_cons_zero, List.set_cons_succ, Nat.reduceAdd]
            refine kept_val _ (fun _ => rfl) (fun ρ w' hw => by have q := (hw.cell (p := ⟨w.heap.size, i + k, none⟩) hrowlt).trans hco; go_simp; first | done | with_reducible rfl) ?_
            iterate 3
              simp only [Act.put, List.setIfInBounds_toArray, List.set_cons_zero, List.set_cons_succ, Nat.reduceAdd]
              refine kept_val _ (fun _ => rfl) (fun ρ w' hw => by go_simp; first | done | with_reducible rfl) ?_
            simp only [Act.put, List.setIfInBounds_toArray, List.set_cons_zero, List.set_cons_succ, Nat.reduceAdd]
            refine kept_val _ (fun _ => rfl) (fun ρ w' hw => by have q := (hw.cell (p := ⟨g, i, none⟩) (Nat.lt_of_lt_of_le hgl hbw.size)).trans hcell; go_simp; first | done | with_reducible rfl) ?_
            iterate 2
              simp only [Act.put, List.setIfInBounds_toArray, List.set_cons_zero, List.set_cons_succ, Nat.reduceAdd]
              refine kept_val _ (fun _ => rfl) (fun ρ w' hw => by go_simp; first | done | with_reducible rfl) ?_
            simp only [Act.put, List.setIfInBounds_toArray, List.set_cons_zero, List.set_cons_succ, Nat.reduceAdd]
            refine kept_call _ _ _ (fun _ => rfl) (fun ρ w' hw => by go_simp; first | done | with_reducible rfl) (fun w' hw => HCB.out _ (bto' hbw hw)) ?_
            iterate 5
              simp only [Act.put, List.setIfInBounds_toArray, List.set_cons_zero, List.set_cons_succ, Nat.reduceAdd]
              refine kept_val _ (fun _ => rfl) (fun ρ w' hw => by go_simp; first | done | with_reducible rfl) ?_
            simp only [Act.put, List.setIfInBounds_toArray, List.set_cons_zero, List.set_cons_succ, Nat.reduceAdd]
            refine kept_end (fun ρ w5 hF => ?_)
            have hb5 := bto hbw hF.below
            have hr5 := HR.out.below hF.below
            have hf5 := hr5.frozen (i + k)
            have hc5 := (hF.below.cell (p := ⟨w.heap.size, i + k, none⟩) hrowlt).trans hco
            have HR5 := Lib.hid hr5
            clear hF w2 w3 w4 hcell hco hfo hbw HR hr5 hpc hrowlt
            go_wp2
            go_roundw
            case rel =>
              have hcB := HST.out.2.2.1
              have eB : BASE = 1000000000 := rfl
              rw [eB] at hcB
              have hov := HOV.out
              rw [eB] at hov
              refine ⟨k + 1, (o + p + cy) / 1000000000, R.set (i + k) ((o + p + cy) % 1000000000), by omega, by go_num, congrArg (Value.int .i64) (by omega), hcB, fun h => by
                rcases Nat.lt_or_ge n' (k + 1) with h5 | h5
                · have := hov h5; omega
                · exact h5, HST, HR5.out.setI (i + k) ((o + p + cy) % 1000000000) (by omega), hb5.setCell (p := ⟨w.heap.size, i + k, none⟩) (Nat.le_refl _) _⟩
            case measure => simp [intOf]; omega
          · have kx : True := trivial
            clear kx
            go_wp2_with fail
            refine wp_region_kept (by kernel_rfl) (by kernel_rfl) ?_
            iterate 5
              refine kept_val _ (fun _ => rfl) (fun ρ w' hw => by go_simp; first | done | with_reducible rfl) ?_
              simp only [Act.put, List.setIfInBounds_toArray, List.set_cons_zero, List.set_cons_succ, Nat.reduceAdd]
            refine kept_val _ (fun _ => rfl) (fun ρ w' hw => by have q := (hw.cell (p := ⟨w.heap.size, i + k, none⟩) hrowlt).trans hco; go_simp; first | done | with_reducible rfl) ?_
            iterate 3
              simp only [Act.put, List.setIfInBounds_toArray, List.set_cons_zero, List.set_cons_succ, Nat.reduceAdd]
              refine kept_val _ (fun _ => rfl) (fun ρ w' hw => by go_simp; first | done | with_reducible rfl) ?_
            simp only [Act.put, List.setIfInBounds_toArray, List.set_cons_zero, List.set_cons_succ, Nat.reduceAdd]
            refine kept_val _ (fun _ => rfl) (fun ρ w' hw => by have q := (hw.cell (p := ⟨g, i, none⟩) (Nat.lt_of_lt_of_le hgl hbw.size)).trans hcell; go_simp; first | done | with_reducible rfl) ?_
            iterate 2
              simp only [Act.put, List.setIfInBounds_toArray, List.set_cons_zero, List.set_cons_succ, Nat.reduceAdd]
              refine kept_val _ (fun _ => rfl) (fun ρ w' hw => by go_simp; first | done | with_reducible rfl) ?_
            simp only [Act.put, List.setIfInBounds_toArray, List.set_cons_zero, List.set_cons_succ, Nat.reduceAdd]
            refine kept_call _ _ _ (fun _ => rfl) (fun ρ w' hw => by go_simp; first | done | with_reducible rfl) (fun w' hw => HCB.out _ (bto' hbw hw)) ?_
            iterate 5
              simp only [Act.put, List.setIfInBounds_toArray, List.set_cons_zero, List.set_cons_succ, Nat.reduceAdd]
              refine kept_val _ (fun _ => rfl) (fun ρ w' hw => by go_simp; first | done | with_reducible rfl) ?_
            simp only [Act.put, List.setIfInBounds_toArray, List.set_cons_zero, List.set_cons_succ, Nat.reduceAdd]
            refine kept_end (fun ρ w5 hF => ?_)
            have hb5 := bto hbw hF.below
            have hr5 := HR.out.below hF.below
            have hf5 := hr5.frozen (i + k)
            have hc5 := (hF.below.cell (p := ⟨w.heap.size, i + k, none⟩) hrowlt).trans hco
            have HR5 := Lib.hid hr5
            clear hF w2 w3 w4 hcell hco hfo hbw HR hr5 hpc hrowlt
            go_wp2
            go_roundw
            case rel =>
              have hcB := HST.out.2.2.1
              have eB : BASE = 1000000000 := rfl
              rw [eB] at hcB
              have hov := HOV.out
              rw [eB] at hov
              refine ⟨k + 1, (o + p + cy) / 1000000000, R.set (i + k) ((o + p + cy) % 1000000000), by omega, by go_num, congrArg (Value.int .i64) (by omega), hcB, fun h => by
                rcases Nat.lt_or_ge n' (k + 1) with h5 | h5
                · have := hov h5; omega
                · exact h5, HST, HR5.out.setI (i + k) ((o + p + cy) % 1000000000) (by omega), hb5.setCell (p := ⟨w.heap.size, i + k, none⟩) (Nat.le_refl _) _⟩
            case measure => simp [intOf]; omega
        · have hk2 : ¬ k < n' := fun e => hcont (.inl e)
          obtain rfl : cy = 0 := by omega
          have d1 : decide (k < n') = false := decide_eq_false hk2
          have HV : Hid (MulOut La Lb R (i + 1)) := HT.out.leave HX.out (by rw [HL'.out]; omega)
          clear HT hcm hcont HGB
          go_wp2
          go_roundw
          case rel => exact ⟨i + 1, R, by omega, by go_num, HV, hrow, hbw⟩
          case measure => simp [intOf]; omega
    · obtain rfl : i = n := by omega
      obtain ⟨h1, h2, h3⟩ := HT.out
      rw [HL.out, HL'.out] at h1
      rw [List.take_of_length_le (by rw [HL.out]; exact Nat.le_refl _), HVA.out, HVB.out] at h3
      have hown := hrow.own (base := w.heap.size) (n := R.length) (Nat.le_refl _) (Nat.le_refl _) (by unfold maxLen; omega)
      rw [List.take_length] at hown
      have HF := Lib.hid (jmag_cut hown h2 h3)
      have ht := trim_ref _ _ _ R wr w.heap.size hown
      rw [h1] at ht
      have HT2 := Lib.hid ht
      rw [h1] at HF
      clear h1 h2 h3 hrow hown HT ht HGB
      go_wp2_with (go_at_call 257; refine HT2.out.mono ?_; rintro e w' ⟨rfl, rfl⟩)
      go_ret
      exact ⟨_, rfl, HF.out, hbw⟩
end Go.Proofs.YtgnppdkeiihlfaaGreatDoor
