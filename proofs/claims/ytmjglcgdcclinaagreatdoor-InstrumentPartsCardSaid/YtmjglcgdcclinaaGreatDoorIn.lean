/- Package instrument: Find; slices.IndexFunc at instruments; trancheref10.Find. -/
import Derived.Test.YtmjglcgdcclinaaGreatDoorIj
namespace Go.Proofs.YtmjglcgdcclinaaGreatDoor
open Go.RowKit Num
/-- the first index with a property, or -1 -/
def idxB (p : Ins → Bool) : List Ins → Nat → Int
  | [], _ => -1
  | a :: t, k => if p a = true then (k : Int) else idxB p t (k + 1)
theorem idxB_drop (p : Ins → Bool) (zs : List Ins) (k : Nat) (y : Ins) (h : zs[k]? = some y) : idxB p (zs.drop k) k = if p y = true then (k : Int) else idxB p (zs.drop (k + 1)) (k + 1) := by
  obtain ⟨hk, rfl⟩ := List.getElem?_eq_some_iff.1 h
  rw [List.drop_eq_getElem_cons hk]; rfl
theorem idxB_any (p : Ins → Bool) : ∀ (zs : List Ins) (k : Nat), 0 ≤ idxB p zs k ↔ zs.any p = true
  | [], k => by simp [idxB]
  | a :: t, k => by
    unfold idxB
    by_cases h : p a = true
    · simp [h]
    · rw [if_neg h, idxB_any p t (k + 1)]; simp [h]
theorem idxB_lt (p : Ins → Bool) : ∀ (zs : List Ins) (k : Nat), idxB p zs k < k + zs.length ∧ -1 ≤ idxB p zs k
  | [], k => by simp [idxB]; omega
  | a :: t, k => by
    unfold idxB
    have ih := idxB_lt p t (k + 1)
    split
    · simp; omega
    · simp at ih ⊢; omega
set_option maxHeartbeats 2000000 in
set_option maxRecDepth 100000 in
theorem idxFuncC (f : Nat) (bc : Nat) (hcall : ∀ (args : Array Value) w, (callFunc f args).run Tryz.prog w = .ok (.enter f args) w) (p : Ins → Bool) (A : Option Addr) (xs : List Ins) (n c : Nat) (w : World) (hn : xs.length = n) (hn2 : n ≤ 1000000000) (h : InsAt w A xs)
    (hp : ∀ x ∈ xs, ∀ w', Below w.heap.size w w' → Calls Tryz.prog f #[(Value.agg #[Value.string ⟨List.toArray x.id⟩, Value.int .i64 x.kind, Value.string ⟨List.toArray x.cur⟩, Value.int .i64 x.places, Value.int .i64 x.issued, Value.int .i64 x.matures, Value.string ⟨List.toArray x.fn⟩, Value.string ⟨List.toArray x.fd⟩, Value.string ⟨List.toArray x.cn⟩, Value.string ⟨List.toArray x.cd⟩, Value.int .i64 x.months, Value.int .i64 x.count, Value.string ⟨List.toArray x.other⟩, Value.string ⟨List.toArray x.sn⟩, Value.string ⟨List.toArray x.sd⟩]), .pointer (some ⟨bc, 0, none⟩)] w' fun e w'' => e = .returned (.bool (p x)) ∧ Below w'.heap.size w' w'') :
    Calls Tryz.prog 139 #[.slice A n c, .func (Fn.func f) #[] #[.pointer (some ⟨bc, 0, none⟩)]] w fun e w' => e = .returned (.int .i64 (idxB p xs 0)) ∧ Below w.heap.size w w' := by
  have HI := Lib.hid h
  have HP := Lib.hid hp
  have hn1 : xs.length ≤ n := by omega
  have hn3 : n ≤ xs.length := by omega
  clear h hp hn
  go_enter Tryz.func139, Tryz.ntmps139
  go_wp2_with fail
  go_loopw [8] (fun iv wr => ∃ k : Nat, k ≤ n ∧ iv = .int .i64 (k : Int) ∧ Hid (idxB p xs 0 = idxB p (xs.drop k) k) ∧ Below w.heap.size w wr) (fun iv _ => n - (intOf iv).toNat)
  case atStart => exact ⟨0, Nat.zero_le _, rfl, rfl, Below.refl _ _⟩
  case round =>
    obtain ⟨k, hk, rfl, HK, hb⟩ := hrel
    by_cases hlt : k < n
    · obtain ⟨x, hx⟩ : ∃ x, xs[k]? = some x := ⟨_, List.getElem?_eq_getElem (by omega)⟩
      obtain ⟨b, o, rfl, hbs, hc⟩ := (HI.out.below hb) k x hx
      have HD := Lib.hid (idxB_drop p xs k x hx)
      have CP := Lib.hid (HP.out x (List.mem_of_getElem? hx) wr hb)
      clear hx
      have p0 := hc.c0
      have p1 := hc.c1
      have p2 := hc.c2
      have p3 := hc.c3
      have p4 := hc.c4
      have p5 := hc.c5
      have p6 := hc.c6
      have p7 := hc.c7
      have p8 := hc.c8
      have p9 := hc.c9
      have p10 := hc.c10
      have p11 := hc.c11
      have p12 := hc.c12
      have p13 := hc.c13
      have p14 := hc.c14
      go_wp2_with fail
      ((with_reducible refine CP.out.mono ?_); rintro e w2 ⟨rfl, hb2⟩)
      replace hb := bto hb hb2
      clear hb2 CP hc p0 p1 p2 p3 p4 p5 p6 p7 p8 p9 p10 p11 p12 p13 p14
      by_cases hq : p x = true
      · have HV : Hid (idxB p xs 0 = k) := by show _ = _; rw [HK.out, HD.out, if_pos hq]
        rw [hq]
        clear hq HK HD
        go_wp2
        go_ret
        exact ⟨reti HV.out.symm, hb⟩
      · have HV : Hid (idxB p xs 0 = idxB p (xs.drop (k + 1)) (k + 1)) := by show _ = _; rw [HK.out, HD.out, if_neg hq]
        rw [not_true_b hq]
        clear hq HK HD
        go_wp2
        go_roundw
        case rel => exact ⟨k + 1, by omega, by go_num, HV, hb⟩
        case measure => simp [intOf]; omega
    · have HV : Hid (idxB p xs 0 = -1) := by show _ = _; rw [HK.out, List.drop_of_length_le (by omega)]; rfl
      go_wp2
      go_ret
      exact ⟨reti HV.out.symm, hb⟩
set_option maxHeartbeats 2000000 in
set_option maxRecDepth 100000 in
theorem idxFuncN (f : Nat) (hcall : ∀ (args : Array Value) w, (callFunc f args).run Tryz.prog w = .ok (.enter f args) w) (p : Ins → Bool) (A : Option Addr) (xs : List Ins) (n c : Nat) (w : World) (hn : xs.length = n) (hn2 : n ≤ 1000000000) (h : InsAt w A xs)
    (hp : ∀ x ∈ xs, ∀ w', Below w.heap.size w w' → Calls Tryz.prog f #[(Value.agg #[Value.string ⟨List.toArray x.id⟩, Value.int .i64 x.kind, Value.string ⟨List.toArray x.cur⟩, Value.int .i64 x.places, Value.int .i64 x.issued, Value.int .i64 x.matures, Value.string ⟨List.toArray x.fn⟩, Value.string ⟨List.toArray x.fd⟩, Value.string ⟨List.toArray x.cn⟩, Value.string ⟨List.toArray x.cd⟩, Value.int .i64 x.months, Value.int .i64 x.count, Value.string ⟨List.toArray x.other⟩, Value.string ⟨List.toArray x.sn⟩, Value.string ⟨List.toArray x.sd⟩])] w' fun e w'' => e = .returned (.bool (p x)) ∧ Below w'.heap.size w' w'') :
    Calls Tryz.prog 139 #[.slice A n c, .func (Fn.func f) #[] #[]] w fun e w' => e = .returned (.int .i64 (idxB p xs 0)) ∧ Below w.heap.size w w' := by
  have HI := Lib.hid h
  have HP := Lib.hid hp
  have hn1 : xs.length ≤ n := by omega
  have hn3 : n ≤ xs.length := by omega
  clear h hp hn
  go_enter Tryz.func139, Tryz.ntmps139
  go_wp2_with fail
  go_loopw [8] (fun iv wr => ∃ k : Nat, k ≤ n ∧ iv = .int .i64 (k : Int) ∧ Hid (idxB p xs 0 = idxB p (xs.drop k) k) ∧ Below w.heap.size w wr) (fun iv _ => n - (intOf iv).toNat)
  case atStart => exact ⟨0, Nat.zero_le _, rfl, rfl, Below.refl _ _⟩
  case round =>
    obtain ⟨k, hk, rfl, HK, hb⟩ := hrel
    by_cases hlt : k < n
    · obtain ⟨x, hx⟩ : ∃ x, xs[k]? = some x := ⟨_, List.getElem?_eq_getElem (by omega)⟩
      obtain ⟨b, o, rfl, hbs, hc⟩ := (HI.out.below hb) k x hx
      have HD := Lib.hid (idxB_drop p xs k x hx)
      have CP := Lib.hid (HP.out x (List.mem_of_getElem? hx) wr hb)
      clear hx
      have p0 := hc.c0
      have p1 := hc.c1
      have p2 := hc.c2
      have p3 := hc.c3
      have p4 := hc.c4
      have p5 := hc.c5
      have p6 := hc.c6
      have p7 := hc.c7
      have p8 := hc.c8
      have p9 := hc.c9
      have p10 := hc.c10
      have p11 := hc.c11
      have p12 := hc.c12
      have p13 := hc.c13
      have p14 := hc.c14
      go_wp2_with fail
      ((with_reducible refine CP.out.mono ?_); rintro e w2 ⟨rfl, hb2⟩)
      replace hb := bto hb hb2
      clear hb2 CP hc p0 p1 p2 p3 p4 p5 p6 p7 p8 p9 p10 p11 p12 p13 p14
      by_cases hq : p x = true
      · have HV : Hid (idxB p xs 0 = k) := by show _ = _; rw [HK.out, HD.out, if_pos hq]
        rw [hq]
        clear hq HK HD
        go_wp2
        go_ret
        exact ⟨reti HV.out.symm, hb⟩
      · have HV : Hid (idxB p xs 0 = idxB p (xs.drop (k + 1)) (k + 1)) := by show _ = _; rw [HK.out, HD.out, if_neg hq]
        rw [not_true_b hq]
        clear hq HK HD
        go_wp2
        go_roundw
        case rel => exact ⟨k + 1, by omega, by go_num, HV, hb⟩
        case measure => simp [intOf]; omega
    · have HV : Hid (idxB p xs 0 = -1) := by show _ = _; rw [HK.out, List.drop_of_length_le (by omega)]; rfl
      go_wp2
      go_ret
      exact ⟨reti HV.out.symm, hb⟩
theorem call_find1 (args : Array Value) (w : World) : (callFunc 140 args).run Tryz.prog w = .ok (.enter 140 args) w := by kernel_rfl
set_option maxRecDepth 100000 in
theorem iFindClo (x : Ins) (id : List UInt8) (bc : Nat) (w : World) (hc : w.cell? ⟨bc, 0, none⟩ = some (.string ⟨id.toArray⟩)) (hlt : bc < w.heap.size) :
    Calls Tryz.prog 140 #[(Value.agg #[Value.string ⟨List.toArray x.id⟩, Value.int .i64 x.kind, Value.string ⟨List.toArray x.cur⟩, Value.int .i64 x.places, Value.int .i64 x.issued, Value.int .i64 x.matures, Value.string ⟨List.toArray x.fn⟩, Value.string ⟨List.toArray x.fd⟩, Value.string ⟨List.toArray x.cn⟩, Value.string ⟨List.toArray x.cd⟩, Value.int .i64 x.months, Value.int .i64 x.count, Value.string ⟨List.toArray x.other⟩, Value.string ⟨List.toArray x.sn⟩, Value.string ⟨List.toArray x.sd⟩]), .pointer (some ⟨bc, 0, none⟩)] w fun e w' => e = .returned (.bool (x.id == id)) ∧ Below w.heap.size w w' := by
  have hb := below_alloc w (.cells #[Value.string ⟨List.toArray x.id⟩, Value.int .i64 x.kind, Value.string ⟨List.toArray x.cur⟩, Value.int .i64 x.places, Value.int .i64 x.issued, Value.int .i64 x.matures, Value.string ⟨List.toArray x.fn⟩, Value.string ⟨List.toArray x.fd⟩, Value.string ⟨List.toArray x.cn⟩, Value.string ⟨List.toArray x.cd⟩, Value.int .i64 x.months, Value.int .i64 x.count, Value.string ⟨List.toArray x.other⟩, Value.string ⟨List.toArray x.sn⟩, Value.string ⟨List.toArray x.sd⟩] 34)
  have q0 := (hb.cell (p := ⟨bc, 0, none⟩) hlt).trans hc
  go_enter Tryz.func140, Tryz.ntmps140
  go_wp2
  go_ret
  exact ⟨rfl, hb⟩
def isId (id : List UInt8) (x : Ins) : Bool := x.id == id
def findV (i : Int) : Value := .tuple #[.int .i64 (max i 0), .bool (decide (0 ≤ i))]
set_option maxHeartbeats 1000000 in
set_option maxRecDepth 100000 in
theorem iFind (A : Option Addr) (xs : List Ins) (n c : Nat) (id : List UInt8) (w : World) (hn : xs.length = n) (hn2 : n ≤ 1000000000) (h : InsAt w A xs) :
    Calls Tryz.prog 67 #[.slice A n c, .string ⟨id.toArray⟩] w fun e w' => e = .returned (findV (idxB (isId id) xs 0)) ∧ Below w.heap.size w w' := by
  have hbA := below_alloc w (.cells #[.string ⟨id.toArray⟩] 9)
  have x3 := Blk.new w #[.string ⟨id.toArray⟩] 9
  have C1 := Lib.hid (idxFuncC 140 w.heap.size call_find1 (isId id) A xs n c _ hn hn2 (h.below hbA) (fun x _ w' hb' => iFindClo x id w.heap.size w' ((x3.below hb').c 0) (x3.below hb').lt))
  have hl := (idxB_lt (isId id) xs 0)
  generalize idxB (isId id) xs 0 = i at *
  clear x3 h
  go_enter Tryz.func67, Tryz.ntmps67
  go_wp2_with fail
  ((with_reducible refine C1.out.mono ?_); rintro e w2 ⟨rfl, hb2⟩)
  go_wp2
  go_ret2
  exact ⟨rfl, bto hbA hb2⟩
end Go.Proofs.YtmjglcgdcclinaaGreatDoor
