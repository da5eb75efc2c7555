/- InstrumentFields. -/
import Derived.Test.YtdbmjbcgcajojaaGreatDoorIm
namespace Go.Proofs.YtdbmjbcgcajojaaGreatDoor
open Go.RowKit Num
theorem IBox.belowB {w w' : World} {b B : Nat} {x : Ins} (h : IBox w b x) (k : Below B w w') (hB : b < B) : IBox w' b x := by
  obtain ⟨t, h⟩ := h
  exact ⟨t, (k.block b hB).trans h⟩
theorem flat_get : ∀ (ys : List Ins) (i j : Nat) (y : Ins), ys[i]? = some y → j < 15 → (ys.flatMap cellsI)[i * 15 + j]? = (cellsI y)[j]?
  | [], i, j, y, h, _ => by simp at h
  | a :: ys, 0, j, y, h, hj => by
    obtain rfl : a = y := by simpa using h
    rw [List.flatMap_cons, Nat.zero_mul, Nat.zero_add, List.getElem?_append_left (by rw [cellsI_len]; exact hj)]
  | a :: ys, i + 1, j, y, h, hj => by
    have ih := flat_get ys i j y (by simpa using h) hj
    rw [List.flatMap_cons, List.getElem?_append_right (by rw [cellsI_len]; omega), cellsI_len, show (i + 1) * 15 + j - 15 = i * 15 + j by omega]
    exact ih
theorem own_insAt {w : World} {base n c : Nat} {A : Option Addr} {ys : List Ins} (h : w.ownsRow base 47 15 (.slice A n c) n (ys.flatMap cellsI)) (hn : n = ys.length) : InsAt w A ys := fun i y hy => by
  have hi := (List.getElem?_eq_some_iff.1 hy).1
  rcases h.2 with ⟨hv, h0⟩ | ⟨g, cap, cur, hv, hb, hh, _⟩
  · omega
  · injection hv with h1 _ h3
    subst h1 h3
    have hc := fun j => h.cellAt j
    have hat : ∀ (j : Nat) (v : Value), j < 15 → (cellsI y)[j]? = some v → w.cell? ⟨g, 0 + i * 15 + j, none⟩ = some v := fun j v hj hv => by
      rw [Nat.zero_add, hc (i * 15 + j) (by omega), flat_get ys i j y hy hj]; exact hv
    refine ⟨g, 0, rfl, (Array.getElem?_eq_some_iff.1 hh).1, ?_⟩
    exact ⟨by simpa using hat 0 _ (by decide) rfl, hat 1 _ (by decide) rfl, hat 2 _ (by decide) rfl, hat 3 _ (by decide) rfl, hat 4 _ (by decide) rfl, hat 5 _ (by decide) rfl, hat 6 _ (by decide) rfl, hat 7 _ (by decide) rfl, hat 8 _ (by decide) rfl, hat 9 _ (by decide) rfl, hat 10 _ (by decide) rfl, hat 11 _ (by decide) rfl, hat 12 _ (by decide) rfl, hat 13 _ (by decide) rfl, hat 14 _ (by decide) rfl⟩
theorem IBox.setId {w : World} {b : Nat} {x : Ins} (h : IBox w b x) (id : List UInt8) : IBox (w.setCell ⟨b, 0, none⟩ (.string ⟨id.toArray⟩)) b { x with id := id } := by
  obtain ⟨t, h⟩ := h
  exact ⟨t, by simp [World.setCell, Array.getElem?_modify, h]⟩
theorem callK2 (args : Array Value) (w : World) : (callFunc 52 args).run Tryz.prog w = .ok (.enter 52 args) w := by kernel_rfl
theorem callK3 (args : Array Value) (w : World) : (callFunc 53 args).run Tryz.prog w = .ok (.enter 53 args) w := by kernel_rfl
theorem callK4 (args : Array Value) (w : World) : (callFunc 54 args).run Tryz.prog w = .ok (.enter 54 args) w := by kernel_rfl
theorem callK5 (args : Array Value) (w : World) : (callFunc 55 args).run Tryz.prog w = .ok (.enter 55 args) w := by kernel_rfl
theorem callK6 (args : Array Value) (w : World) : (callFunc 56 args).run Tryz.prog w = .ok (.enter 56 args) w := by kernel_rfl
theorem callK7 (args : Array Value) (w : World) : (callFunc 57 args).run Tryz.prog w = .ok (.enter 57 args) w := by kernel_rfl
theorem callK8 (args : Array Value) (w : World) : (callFunc 58 args).run Tryz.prog w = .ok (.enter 58 args) w := by kernel_rfl
theorem callK9 (args : Array Value) (w : World) : (callFunc 59 args).run Tryz.prog w = .ok (.enter 59 args) w := by kernel_rfl
theorem callK10 (args : Array Value) (w : World) : (callFunc 60 args).run Tryz.prog w = .ok (.enter 60 args) w := by kernel_rfl
/-- Great, of a slice of one instrument that was just made -/
theorem great_one_f (w : World) (x : Ins) (t : TypeId) (b : Nat) (hbz : w.heap.size = b) : Calls Tryz.prog 44 #[.slice (some ⟨b, 0, none⟩) 1 1] (w.alloc (.cells #[Value.string ⟨List.toArray x.id⟩, Value.int .i64 x.kind, Value.string ⟨List.toArray x.cur⟩, Value.int .i64 x.places, Value.int .i64 x.issued, Value.int .i64 x.matures, Value.string ⟨List.toArray x.fn⟩, Value.string ⟨List.toArray x.fd⟩, Value.string ⟨List.toArray x.cn⟩, Value.string ⟨List.toArray x.cd⟩, Value.int .i64 x.months, Value.int .i64 x.count, Value.string ⟨List.toArray x.other⟩, Value.string ⟨List.toArray x.sn⟩, Value.string ⟨List.toArray x.sd⟩] t)) fun e w' => ((e = .returned (.bool true)) ∨ (e = .returned (.bool false) ∧ x.Small)) ∧ Below w.heap.size w w' := by
  subst hbz
  have h := jGreat (some ⟨w.heap.size, 0, none⟩) [x] 1 (w.alloc (.cells #[Value.string ⟨List.toArray x.id⟩, Value.int .i64 x.kind, Value.string ⟨List.toArray x.cur⟩, Value.int .i64 x.places, Value.int .i64 x.issued, Value.int .i64 x.matures, Value.string ⟨List.toArray x.fn⟩, Value.string ⟨List.toArray x.fd⟩, Value.string ⟨List.toArray x.cn⟩, Value.string ⟨List.toArray x.cd⟩, Value.int .i64 x.months, Value.int .i64 x.count, Value.string ⟨List.toArray x.other⟩, Value.string ⟨List.toArray x.sn⟩, Value.string ⟨List.toArray x.sd⟩] t)) (by simp) (fun i y hy => by
    cases i with
    | zero =>
      obtain rfl : x = y := by simpa using hy
      exact ⟨w.heap.size, 0, rfl, by simp, (IBox.new w x t).cells⟩
    | succ i => simp at hy)
  refine h.mono fun e w' ⟨h1, h2⟩ => ⟨?_, bto (below_alloc _ _) h2⟩
  rcases h1 with h1 | ⟨h1, h3, -⟩
  · exact .inl h1
  · exact .inr ⟨h1, h3 x (by simp)⟩
set_option maxHeartbeats 4000000 in
set_option maxRecDepth 100000 in
theorem fields_2 (x : Ins) (K : Hid (x.kind = 2)) (id : List UInt8) (w : World) (hG : Glob w) :
    Calls Tryz.prog 7 #[(Value.agg #[Value.string ⟨List.toArray x.id⟩, Value.int .i64 x.kind, Value.string ⟨List.toArray x.cur⟩, Value.int .i64 x.places, Value.int .i64 x.issued, Value.int .i64 x.matures, Value.string ⟨List.toArray x.fn⟩, Value.string ⟨List.toArray x.fd⟩, Value.string ⟨List.toArray x.cn⟩, Value.string ⟨List.toArray x.cd⟩, Value.int .i64 x.months, Value.int .i64 x.count, Value.string ⟨List.toArray x.other⟩, Value.string ⟨List.toArray x.sn⟩, Value.string ⟨List.toArray x.sd⟩]), .string ⟨id.toArray⟩] w fun e w' => e = .returned (.bool true) ∧ Below w.heap.size w w' := by
  have CW := Lib.hid rAwake10
  have x2 := IBox.new w x 47
  have hb := below_alloc w (.cells #[Value.string ⟨List.toArray x.id⟩, Value.int .i64 x.kind, Value.string ⟨List.toArray x.cur⟩, Value.int .i64 x.places, Value.int .i64 x.issued, Value.int .i64 x.matures, Value.string ⟨List.toArray x.fn⟩, Value.string ⟨List.toArray x.fd⟩, Value.string ⟨List.toArray x.cn⟩, Value.string ⟨List.toArray x.cd⟩, Value.int .i64 x.months, Value.int .i64 x.count, Value.string ⟨List.toArray x.other⟩, Value.string ⟨List.toArray x.sn⟩, Value.string ⟨List.toArray x.sd⟩] 47)
  have HGr := Lib.hid (great_one_f (w.alloc (.cells #[Value.string ⟨List.toArray x.id⟩, Value.int .i64 x.kind, Value.string ⟨List.toArray x.cur⟩, Value.int .i64 x.places, Value.int .i64 x.issued, Value.int .i64 x.matures, Value.string ⟨List.toArray x.fn⟩, Value.string ⟨List.toArray x.fd⟩, Value.string ⟨List.toArray x.cn⟩, Value.string ⟨List.toArray x.cd⟩, Value.int .i64 x.months, Value.int .i64 x.count, Value.string ⟨List.toArray x.other⟩, Value.string ⟨List.toArray x.sn⟩, Value.string ⟨List.toArray x.sd⟩] 47)) x 47 _ (World.size_alloc _ _))
  go_enter Tryz.func7, Tryz.ntmps7
  go_wp2_with fail
  ((with_reducible refine HGr.out.mono ?_); rintro e w1 ⟨hres, hb1⟩)
  replace x2 := x2.below hb1
  replace hb := bto hb hb1
  clear HGr hb1
  rcases hres with rfl | ⟨rfl, hx⟩
  · go_wp2_with fail
    ((with_reducible refine (CW.out.of hG hb).mono ?_); rintro e w2 ⟨rfl, hb2⟩)
    go_wp2
    go_ret
    exact ⟨rfl, bto hb hb2⟩
  by_cases hs : 60 < id.length
  · have e1 : decide (60 < id.length) = true := decide_eq_true hs
    go_wp2_with fail
    ((with_reducible refine (CW.out.of hG hb).mono ?_); rintro e w2 ⟨rfl, hb2⟩)
    replace x2 := x2.below hb2
    replace hb := bto hb hb2
    clear hb2
    go_wp2
    go_ret
    exact ⟨rfl, hb⟩
  have e1 : decide (60 < id.length) = false := decide_eq_false hs
  have CK := Lib.hid (iCheck x hx)
  by_cases h0 : chkE x = 0
  rotate_left
  · have e2 : (chkE x == 0) = false := by rw [beq_eq_false_iff_ne]; exact h0
    have e3 := bneq' e2
    have qx2_0 := x2.c0
    have qx2_1 := x2.c1
    have qx2_2 := x2.c2
    have qx2_3 := x2.c3
    have qx2_4 := x2.c4
    have qx2_5 := x2.c5
    have qx2_6 := x2.c6
    have qx2_7 := x2.c7
    have qx2_8 := x2.c8
    have qx2_9 := x2.c9
    have qx2_10 := x2.c10
    have qx2_11 := x2.c11
    have qx2_12 := x2.c12
    have qx2_13 := x2.c13
    have qx2_14 := x2.c14
    go_wp2_with fail
    ((with_reducible refine (CK.out.of hG hb).mono ?_); rintro e w2 ⟨rfl, hb2⟩)
    clear qx2_0 qx2_1 qx2_2 qx2_3 qx2_4 qx2_5 qx2_6 qx2_7 qx2_8 qx2_9 qx2_10 qx2_11 qx2_12 qx2_13 qx2_14
    replace x2 := x2.below hb2
    replace hb := bto hb hb2
    clear hb2
    go_wp2_with fail
    ((with_reducible refine (CW.out.of hG hb).mono ?_); rintro e w3 ⟨rfl, hb3⟩)
    replace x2 := x2.below hb3
    replace hb := bto hb hb3
    clear hb3
    go_wp2
    go_ret
    exact ⟨rfl, hb⟩
  have CI := Lib.hid (iCheck { x with id := id } (small_id hx id (by omega)))
  have HI := Lib.hid (chk_id h0 id)
  have CN := Lib.hid (iName (l := id) (by omega))
  rw [h0] at CK
  clear h0
  have qx2_0 := x2.c0
  have qx2_1 := x2.c1
  have qx2_2 := x2.c2
  have qx2_3 := x2.c3
  have qx2_4 := x2.c4
  have qx2_5 := x2.c5
  have qx2_6 := x2.c6
  have qx2_7 := x2.c7
  have qx2_8 := x2.c8
  have qx2_9 := x2.c9
  have qx2_10 := x2.c10
  have qx2_11 := x2.c11
  have qx2_12 := x2.c12
  have qx2_13 := x2.c13
  have qx2_14 := x2.c14
  go_wp2_with fail
  ((with_reducible refine (CK.out.of hG hb).mono ?_); rintro e w2 ⟨rfl, hb2⟩)
  clear qx2_0 qx2_1 qx2_2 qx2_3 qx2_4 qx2_5 qx2_6 qx2_7 qx2_8 qx2_9 qx2_10 qx2_11 qx2_12 qx2_13 qx2_14
  replace x2 := x2.below hb2
  replace hb := bto hb hb2
  clear hb2
  clear CK e1 hs
  have x5 := (FBox.new w2 (.string ⟨#[49]⟩) (.string ⟨#[]⟩) 24).below (below_alloc _ (.cells #[.slice none 0 0] 49))
  have hA5 := below_alloc w2 (.cells #[.string ⟨#[49]⟩, .string ⟨#[]⟩] 24)
  have hA6 := below_alloc (w2.alloc (.cells #[.string ⟨#[49]⟩, .string ⟨#[]⟩] 24)) (.cells #[.slice none 0 0] 49)
  have x2 := (x2.below hA5).below hA6
  have x6 : Coll ((w2.alloc (.cells #[.string ⟨#[49]⟩, .string ⟨#[]⟩] 24)).alloc (.cells #[.slice none 0 0] 49)) (w2.heap.size + 1 + 1) (w2.heap.size + 1) [] := by
    refine ⟨.slice none 0 0, ?_, rfl, .inl ⟨rfl, rfl⟩⟩
    have := heap_alloc_new (w2.alloc (.cells #[.string ⟨#[49]⟩, .string ⟨#[]⟩] 24)) (.cells #[.slice none 0 0] 49)
    rw [World.size_alloc] at this
    exact this
  have h25 : w.heap.size < w2.heap.size + 1 := by have := hb.size; omega
  have h56 : w2.heap.size < w2.heap.size + 1 := by omega
  have hwb : w.heap.size ≤ w2.heap.size + 1 := by omega
  replace hb := bto (bto hb hA5) hA6
  clear hA5 hA6
  have e2 : (x.kind == 2) = true := by rw [beq_iff_eq]; exact K.out
  have e3 := bneq e2
  have e5 : (x.kind == 5) = false := by rw [beq_eq_false_iff_ne]; have := K.out; omega
  have e6 := bneq' e5
  have hA := addC 56 callK6 x (mod6 x) w.heap.size w2.heap.size (w2.heap.size + 1) h25 h56 (fun w b h h5 => chg6 x w b w2.heap.size h h5) [] (by simp) ((w2.alloc (.cells #[.string ⟨#[49]⟩, .string ⟨#[]⟩] 24)).alloc (.cells #[.slice none 0 0] 49)) x2 x5 x6
  have HA := Lib.hid hA
  clear hA
  have qx2_1 := x2.c1
  go_wp2_with fail
  ((with_reducible refine HA.out.mono ?_); rintro e w3 ⟨rfl, hb3, x6⟩)
  clear HA
  clear qx2_1
  replace x2 := x2.belowB hb3 h25
  replace x5 := x5.belowB hb3 h56
  replace hb := hb.trans (hb3.mono hwb)
  clear hb3
  have hA := addN 57 callK7 x (mod7 x) w.heap.size w2.heap.size (w2.heap.size + 1) h25 h56 (fun w b h _ => chg7 x w b h) [mod6 x] (by simp) w3 x2 x5 x6
  have HA := Lib.hid hA
  clear hA
  have qx2_1 := x2.c1
  go_wp2_with fail
  ((with_reducible refine HA.out.mono ?_); rintro e w4 ⟨rfl, hb4, x6⟩)
  clear HA
  clear qx2_1
  replace x2 := x2.belowB hb4 h25
  replace x5 := x5.belowB hb4 h56
  replace hb := hb.trans (hb4.mono hwb)
  clear hb4
  have hA := addN 58 callK8 x (mod8 x) w.heap.size w2.heap.size (w2.heap.size + 1) h25 h56 (fun w b h _ => chg8 x w b h) [mod6 x, mod7 x] (by simp) w4 x2 x5 x6
  have HA := Lib.hid hA
  clear hA
  have qx2_1 := x2.c1
  go_wp2_with fail
  ((with_reducible refine HA.out.mono ?_); rintro e w5 ⟨rfl, hb5, x6⟩)
  clear HA
  clear qx2_1
  replace x2 := x2.belowB hb5 h25
  replace x5 := x5.belowB hb5 h56
  replace hb := hb.trans (hb5.mono hwb)
  clear hb5
  have hA := addN 59 callK9 x (mod9 x) w.heap.size w2.heap.size (w2.heap.size + 1) h25 h56 (fun w b h _ => chg9 x w b h) [mod6 x, mod7 x, mod8 x] (by simp) w5 x2 x5 x6
  have HA := Lib.hid hA
  clear hA
  have qx2_1 := x2.c1
  go_wp2_with fail
  ((with_reducible refine HA.out.mono ?_); rintro e w6 ⟨rfl, hb6, x6⟩)
  clear HA
  clear qx2_1
  replace x2 := x2.belowB hb6 h25
  replace x5 := x5.belowB hb6 h56
  replace hb := hb.trans (hb6.mono hwb)
  clear hb6
  have hA := addN 60 callK10 x (mod10 x) w.heap.size w2.heap.size (w2.heap.size + 1) h25 h56 (fun w b h _ => chg10 x w b h) [mod6 x, mod7 x, mod8 x, mod9 x] (by simp) w6 x2 x5 x6
  have HA := Lib.hid hA
  clear hA
  have qx2_1 := x2.c1
  go_wp2_with fail
  ((with_reducible refine HA.out.mono ?_); rintro e w7 ⟨rfl, hb7, x6⟩)
  clear HA
  clear qx2_1
  replace x2 := x2.belowB hb7 h25
  replace x5 := x5.belowB hb7 h56
  replace hb := hb.trans (hb7.mono hwb)
  clear hb7
  have HBS : Hid (∀ y ∈ [mod6 x, mod7 x, mod8 x, mod9 x, mod10 x], BadSmall y) := by
    intro y hy
    simp only [List.mem_cons, List.not_mem_nil, or_false] at hy
    rcases hy with rfl | rfl | rfl | rfl | rfl
    · exact bs6 hx (by have := K.out; omega)
    · exact bs7 hx (by have := K.out; omega)
    · exact bs8 hx (.inl K.out)
    · exact bs9 hx
    · exact bs10 hx
  have hn : ([mod6 x, mod7 x, mod8 x, mod9 x, mod10 x] : List Ins).length ≤ 100 := by simp
  replace x6 : Coll w7 ((w2.heap.size + 1) + 1) (w2.heap.size + 1) [mod6 x, mod7 x, mod8 x, mod9 x, mod10 x] := x6
  generalize ([mod6 x, mod7 x, mod8 x, mod9 x, mod10 x] : List Ins) = ys at *
  obtain ⟨v, h6, hown⟩ := x6
  obtain ⟨A, cp, rfl⟩ := own_form' hown
  have hI := own_insAt hown rfl
  have HIn := Lib.hid hI
  have q6 : w7.cell? ⟨(w2.heap.size + 1), 0, none⟩ = some (.slice A ys.length cp) := blk_cell h6 0
  clear hI h6 hown x5
  go_wp2_with fail
  clear q6
  go_loopw [63] (fun iv wr => ∃ k : Nat, k ≤ ys.length ∧ iv = .int .i64 (k : Int) ∧ Below w7.heap.size w7 wr) (fun iv _ => ys.length - (intOf iv).toNat)
  case atStart => exact ⟨0, Nat.zero_le _, rfl, Below.refl _ _⟩
  case round =>
    obtain ⟨k, hk, rfl, hbr⟩ := hrel
    by_cases hlt : k < ys.length
    · obtain ⟨y, hy⟩ : ∃ y, ys[k]? = some y := ⟨_, List.getElem?_eq_getElem hlt⟩
      obtain ⟨hbad, hsm⟩ := HBS.out y (List.mem_of_getElem? hy)
      obtain ⟨b, o, rfl, hbs, hc⟩ := (HIn.out.below hbr) k y hy
      have CY := Lib.hid (iCheck y hsm)
      have e1 : (chkE y == 0) = false := by rw [beq_eq_false_iff_ne]; exact hbad
      clear hy hbad
      have p0 := hc.c0
      have p1 := hc.c1
      have p2 := hc.c2
      have p3 := hc.c3
      have p4 := hc.c4
      have p5 := hc.c5
      have p6 := hc.c6
      have p7 := hc.c7
      have p8 := hc.c8
      have p9 := hc.c9
      have p10 := hc.c10
      have p11 := hc.c11
      have p12 := hc.c12
      have p13 := hc.c13
      have p14 := hc.c14
      have hbA := below_alloc wr (.cells #[Value.string ⟨List.toArray y.id⟩, Value.int .i64 y.kind, Value.string ⟨List.toArray y.cur⟩, Value.int .i64 y.places, Value.int .i64 y.issued, Value.int .i64 y.matures, Value.string ⟨List.toArray y.fn⟩, Value.string ⟨List.toArray y.fd⟩, Value.string ⟨List.toArray y.cn⟩, Value.string ⟨List.toArray y.cd⟩, Value.int .i64 y.months, Value.int .i64 y.count, Value.string ⟨List.toArray y.other⟩, Value.string ⟨List.toArray y.sn⟩, Value.string ⟨List.toArray y.sd⟩] 47)
      go_wp2_with fail
      ((with_reducible refine (CY.out.of hG (bto (bto hb hbr) hbA)).mono ?_); rintro e wn ⟨rfl, hbn⟩)
      have hbr2 := bto (bto hbr hbA) hbn
      clear hbn hbA hc p0 p1 p2 p3 p4 p5 p6 p7 p8 p9 p10 p11 p12 p13 p14
      go_wp2
      go_roundw
      case rel => exact ⟨k + 1, by omega, by go_num, hbr2⟩
      case measure => simp [intOf]; omega
    · replace x2 := x2.below hbr
      replace hb := bto hb hbr
      clear hbr HIn HBS hn
      have f0 := x2.f 0
      have z0 := x2.setId id
      have hb' := below_set1 hb (Nat.le_refl _) 0 (.string ⟨id.toArray⟩)
      have p0 := x2.c0
      have HC := Lib.hid (CI.out.of hG hb')
      have z1 := z0.c0
      have z2 := z0.c1
      have z3 := z0.c2
      have z4 := z0.c3
      have z5 := z0.c4
      have z6 := z0.c5
      have z7 := z0.c6
      have z8 := z0.c7
      have z9 := z0.c8
      have z10 := z0.c9
      have z11 := z0.c10
      have z12 := z0.c11
      have z13 := z0.c12
      have z14 := z0.c13
      have z15 := z0.c14
      go_wp2_with fail
      ((with_reducible refine HC.out.mono ?_); rintro e wn ⟨rfl, hbn⟩)
      replace hb := bto hb' hbn
      clear hbn hb' p0 f0 z0 HC z1 z2 z3 z4 z5 z6 z7 z8 z9 z10 z11 z12 z13 z14 z15
      have hi := HI.out
      go_wp2_with fail
      ((with_reducible refine (CN.out.of hG hb).mono ?_); rintro e wm ⟨rfl, hbm⟩)
      replace hb := bto hb hbm
      clear hbm x2
      go_wp2_with fail
      ((with_reducible refine (CW.out.of hG hb).mono ?_); rintro e w8 ⟨rfl, hb8⟩)
      replace hb := bto hb hb8
      clear hb8
      go_wp2
      go_ret
      exact ⟨rfl, hb⟩
set_option maxHeartbeats 4000000 in
set_option maxRecDepth 100000 in
theorem fields_5 (x : Ins) (K : Hid (x.kind = 5)) (id : List UInt8) (w : World) (hG : Glob w) :
    Calls Tryz.prog 7 #[(Value.agg #[Value.string ⟨List.toArray x.id⟩, Value.int .i64 x.kind, Value.string ⟨List.toArray x.cur⟩, Value.int .i64 x.places, Value.int .i64 x.issued, Value.int .i64 x.matures, Value.string ⟨List.toArray x.fn⟩, Value.string ⟨List.toArray x.fd⟩, Value.string ⟨List.toArray x.cn⟩, Value.string ⟨List.toArray x.cd⟩, Value.int .i64 x.months, Value.int .i64 x.count, Value.string ⟨List.toArray x.other⟩, Value.string ⟨List.toArray x.sn⟩, Value.string ⟨List.toArray x.sd⟩]), .string ⟨id.toArray⟩] w fun e w' => e = .returned (.bool true) ∧ Below w.heap.size w w' := by
  have CW := Lib.hid rAwake10
  have x2 := IBox.new w x 47
  have hb := below_alloc w (.cells #[Value.string ⟨List.toArray x.id⟩, Value.int .i64 x.kind, Value.string ⟨List.toArray x.cur⟩, Value.int .i64 x.places, Value.int .i64 x.issued, Value.int .i64 x.matures, Value.string ⟨List.toArray x.fn⟩, Value.string ⟨List.toArray x.fd⟩, Value.string ⟨List.toArray x.cn⟩, Value.string ⟨List.toArray x.cd⟩, Value.int .i64 x.months, Value.int .i64 x.count, Value.string ⟨List.toArray x.other⟩, Value.string ⟨List.toArray x.sn⟩, Value.string ⟨List.toArray x.sd⟩] 47)
  have HGr := Lib.hid (great_one_f (w.alloc (.cells #[Value.string ⟨List.toArray x.id⟩, Value.int .i64 x.kind, Value.string ⟨List.toArray x.cur⟩, Value.int .i64 x.places, Value.int .i64 x.issued, Value.int .i64 x.matures, Value.string ⟨List.toArray x.fn⟩, Value.string ⟨List.toArray x.fd⟩, Value.string ⟨List.toArray x.cn⟩, Value.string ⟨List.toArray x.cd⟩, Value.int .i64 x.months, Value.int .i64 x.count, Value.string ⟨List.toArray x.other⟩, Value.string ⟨List.toArray x.sn⟩, Value.string ⟨List.toArray x.sd⟩] 47)) x 47 _ (World.size_alloc _ _))
  go_enter Tryz.func7, Tryz.ntmps7
  go_wp2_with fail
  ((with_reducible refine HGr.out.mono ?_); rintro e w1 ⟨hres, hb1⟩)
  replace x2 := x2.below hb1
  replace hb := bto hb hb1
  clear HGr hb1
  rcases hres with rfl | ⟨rfl, hx⟩
  · go_wp2_with fail
    ((with_reducible refine (CW.out.of hG hb).mono ?_); rintro e w2 ⟨rfl, hb2⟩)
    go_wp2
    go_ret
    exact ⟨rfl, bto hb hb2⟩
  by_cases hs : 60 < id.length
  · have e1 : decide (60 < id.length) = true := decide_eq_true hs
    go_wp2_with fail
    ((with_reducible refine (CW.out.of hG hb).mono ?_); rintro e w2 ⟨rfl, hb2⟩)
    replace x2 := x2.below hb2
    replace hb := bto hb hb2
    clear hb2
    go_wp2
    go_ret
    exact ⟨rfl, hb⟩
  have e1 : decide (60 < id.length) = false := decide_eq_false hs
  have CK := Lib.hid (iCheck x hx)
  by_cases h0 : chkE x = 0
  rotate_left
  · have e2 : (chkE x == 0) = false := by rw [beq_eq_false_iff_ne]; exact h0
    have e3 := bneq' e2
    have qx2_0 := x2.c0
    have qx2_1 := x2.c1
    have qx2_2 := x2.c2
    have qx2_3 := x2.c3
    have qx2_4 := x2.c4
    have qx2_5 := x2.c5
    have qx2_6 := x2.c6
    have qx2_7 := x2.c7
    have qx2_8 := x2.c8
    have qx2_9 := x2.c9
    have qx2_10 := x2.c10
    have qx2_11 := x2.c11
    have qx2_12 := x2.c12
    have qx2_13 := x2.c13
    have qx2_14 := x2.c14
    go_wp2_with fail
    ((with_reducible refine (CK.out.of hG hb).mono ?_); rintro e w2 ⟨rfl, hb2⟩)
    clear qx2_0 qx2_1 qx2_2 qx2_3 qx2_4 qx2_5 qx2_6 qx2_7 qx2_8 qx2_9 qx2_10 qx2_11 qx2_12 qx2_13 qx2_14
    replace x2 := x2.below hb2
    replace hb := bto hb hb2
    clear hb2
    go_wp2_with fail
    ((with_reducible refine (CW.out.of hG hb).mono ?_); rintro e w3 ⟨rfl, hb3⟩)
    replace x2 := x2.below hb3
    replace hb := bto hb hb3
    clear hb3
    go_wp2
    go_ret
    exact ⟨rfl, hb⟩
  have CI := Lib.hid (iCheck { x with id := id } (small_id hx id (by omega)))
  have HI := Lib.hid (chk_id h0 id)
  have CN := Lib.hid (iName (l := id) (by omega))
  rw [h0] at CK
  clear h0
  have qx2_0 := x2.c0
  have qx2_1 := x2.c1
  have qx2_2 := x2.c2
  have qx2_3 := x2.c3
  have qx2_4 := x2.c4
  have qx2_5 := x2.c5
  have qx2_6 := x2.c6
  have qx2_7 := x2.c7
  have qx2_8 := x2.c8
  have qx2_9 := x2.c9
  have qx2_10 := x2.c10
  have qx2_11 := x2.c11
  have qx2_12 := x2.c12
  have qx2_13 := x2.c13
  have qx2_14 := x2.c14
  go_wp2_with fail
  ((with_reducible refine (CK.out.of hG hb).mono ?_); rintro e w2 ⟨rfl, hb2⟩)
  clear qx2_0 qx2_1 qx2_2 qx2_3 qx2_4 qx2_5 qx2_6 qx2_7 qx2_8 qx2_9 qx2_10 qx2_11 qx2_12 qx2_13 qx2_14
  replace x2 := x2.below hb2
  replace hb := bto hb hb2
  clear hb2
  clear CK e1 hs
  have x5 := (FBox.new w2 (.string ⟨#[49]⟩) (.string ⟨#[]⟩) 24).below (below_alloc _ (.cells #[.slice none 0 0] 49))
  have hA5 := below_alloc w2 (.cells #[.string ⟨#[49]⟩, .string ⟨#[]⟩] 24)
  have hA6 := below_alloc (w2.alloc (.cells #[.string ⟨#[49]⟩, .string ⟨#[]⟩] 24)) (.cells #[.slice none 0 0] 49)
  have x2 := (x2.below hA5).below hA6
  have x6 : Coll ((w2.alloc (.cells #[.string ⟨#[49]⟩, .string ⟨#[]⟩] 24)).alloc (.cells #[.slice none 0 0] 49)) (w2.heap.size + 1 + 1) (w2.heap.size + 1) [] := by
    refine ⟨.slice none 0 0, ?_, rfl, .inl ⟨rfl, rfl⟩⟩
    have := heap_alloc_new (w2.alloc (.cells #[.string ⟨#[49]⟩, .string ⟨#[]⟩] 24)) (.cells #[.slice none 0 0] 49)
    rw [World.size_alloc] at this
    exact this
  have h25 : w.heap.size < w2.heap.size + 1 := by have := hb.size; omega
  have h56 : w2.heap.size < w2.heap.size + 1 := by omega
  have hwb : w.heap.size ≤ w2.heap.size + 1 := by omega
  replace hb := bto (bto hb hA5) hA6
  clear hA5 hA6
  have e2 : (x.kind == 2) = false := by rw [beq_eq_false_iff_ne]; have := K.out; omega
  have e3 := bneq' e2
  have e5 : (x.kind == 5) = true := by rw [beq_iff_eq]; exact K.out
  have e6 := bneq e5
  have hA := addC 52 callK2 x (mod2 x) w.heap.size w2.heap.size (w2.heap.size + 1) h25 h56 (fun w b h h5 => chg2 x w b w2.heap.size h h5) [] (by simp) ((w2.alloc (.cells #[.string ⟨#[49]⟩, .string ⟨#[]⟩] 24)).alloc (.cells #[.slice none 0 0] 49)) x2 x5 x6
  have HA := Lib.hid hA
  clear hA
  have qx2_1 := x2.c1
  go_wp2_with fail
  ((with_reducible refine HA.out.mono ?_); rintro e w3 ⟨rfl, hb3, x6⟩)
  clear HA
  clear qx2_1
  replace x2 := x2.belowB hb3 h25
  replace x5 := x5.belowB hb3 h56
  replace hb := hb.trans (hb3.mono hwb)
  clear hb3
  have hA := addC 53 callK3 x (mod3 x) w.heap.size w2.heap.size (w2.heap.size + 1) h25 h56 (fun w b h h5 => chg3 x w b w2.heap.size h h5) [mod2 x] (by simp) w3 x2 x5 x6
  have HA := Lib.hid hA
  clear hA
  have qx2_1 := x2.c1
  go_wp2_with fail
  ((with_reducible refine HA.out.mono ?_); rintro e w4 ⟨rfl, hb4, x6⟩)
  clear HA
  clear qx2_1
  replace x2 := x2.belowB hb4 h25
  replace x5 := x5.belowB hb4 h56
  replace hb := hb.trans (hb4.mono hwb)
  clear hb4
  have hA := addN 54 callK4 x (mod4 x) w.heap.size w2.heap.size (w2.heap.size + 1) h25 h56 (fun w b h _ => chg4 x w b h) [mod2 x, mod3 x] (by simp) w4 x2 x5 x6
  have HA := Lib.hid hA
  clear hA
  have qx2_1 := x2.c1
  go_wp2_with fail
  ((with_reducible refine HA.out.mono ?_); rintro e w5 ⟨rfl, hb5, x6⟩)
  clear HA
  clear qx2_1
  replace x2 := x2.belowB hb5 h25
  replace x5 := x5.belowB hb5 h56
  replace hb := hb.trans (hb5.mono hwb)
  clear hb5
  have hA := addN 55 callK5 x (mod5 x) w.heap.size w2.heap.size (w2.heap.size + 1) h25 h56 (fun w b h _ => chg5 x w b h) [mod2 x, mod3 x, mod4 x] (by simp) w5 x2 x5 x6
  have HA := Lib.hid hA
  clear hA
  have qx2_1 := x2.c1
  go_wp2_with fail
  ((with_reducible refine HA.out.mono ?_); rintro e w6 ⟨rfl, hb6, x6⟩)
  clear HA
  clear qx2_1
  replace x2 := x2.belowB hb6 h25
  replace x5 := x5.belowB hb6 h56
  replace hb := hb.trans (hb6.mono hwb)
  clear hb6
  have hA := addN 58 callK8 x (mod8 x) w.heap.size w2.heap.size (w2.heap.size + 1) h25 h56 (fun w b h _ => chg8 x w b h) [mod2 x, mod3 x, mod4 x, mod5 x] (by simp) w6 x2 x5 x6
  have HA := Lib.hid hA
  clear hA
  have qx2_1 := x2.c1
  go_wp2_with fail
  ((with_reducible refine HA.out.mono ?_); rintro e w7 ⟨rfl, hb7, x6⟩)
  clear HA
  clear qx2_1
  replace x2 := x2.belowB hb7 h25
  replace x5 := x5.belowB hb7 h56
  replace hb := hb.trans (hb7.mono hwb)
  clear hb7
  have hA := addN 59 callK9 x (mod9 x) w.heap.size w2.heap.size (w2.heap.size + 1) h25 h56 (fun w b h _ => chg9 x w b h) [mod2 x, mod3 x, mod4 x, mod5 x, mod8 x] (by simp) w7 x2 x5 x6
  have HA := Lib.hid hA
  clear hA
  have qx2_1 := x2.c1
  go_wp2_with fail
  ((with_reducible refine HA.out.mono ?_); rintro e w8 ⟨rfl, hb8, x6⟩)
  clear HA
  clear qx2_1
  replace x2 := x2.belowB hb8 h25
  replace x5 := x5.belowB hb8 h56
  replace hb := hb.trans (hb8.mono hwb)
  clear hb8
  have hA := addN 60 callK10 x (mod10 x) w.heap.size w2.heap.size (w2.heap.size + 1) h25 h56 (fun w b h _ => chg10 x w b h) [mod2 x, mod3 x, mod4 x, mod5 x, mod8 x, mod9 x] (by simp) w8 x2 x5 x6
  have HA := Lib.hid hA
  clear hA
  have qx2_1 := x2.c1
  go_wp2_with fail
  ((with_reducible refine HA.out.mono ?_); rintro e w9 ⟨rfl, hb9, x6⟩)
  clear HA
  clear qx2_1
  replace x2 := x2.belowB hb9 h25
  replace x5 := x5.belowB hb9 h56
  replace hb := hb.trans (hb9.mono hwb)
  clear hb9
  have HBS : Hid (∀ y ∈ [mod2 x, mod3 x, mod4 x, mod5 x, mod8 x, mod9 x, mod10 x], BadSmall y) := by
    intro y hy
    simp only [List.mem_cons, List.not_mem_nil, or_false] at hy
    rcases hy with rfl | rfl | rfl | rfl | rfl | rfl | rfl
    · exact bs2 hx (by have := K.out; omega)
    · exact bs3 hx (by have := K.out; omega)
    · exact bs4 hx (by have := K.out; omega)
    · exact bs5 hx (by have := K.out; omega)
    · exact bs8 hx (.inr K.out)
    · exact bs9 hx
    · exact bs10 hx
  have hn : ([mod2 x, mod3 x, mod4 x, mod5 x, mod8 x, mod9 x, mod10 x] : List Ins).length ≤ 100 := by simp
  replace x6 : Coll w9 ((w2.heap.size + 1) + 1) (w2.heap.size + 1) [mod2 x, mod3 x, mod4 x, mod5 x, mod8 x, mod9 x, mod10 x] := x6
  generalize ([mod2 x, mod3 x, mod4 x, mod5 x, mod8 x, mod9 x, mod10 x] : List Ins) = ys at *
  obtain ⟨v, h6, hown⟩ := x6
  obtain ⟨A, cp, rfl⟩ := own_form' hown
  have hI := own_insAt hown rfl
  have HIn := Lib.hid hI
  have q6 : w9.cell? ⟨(w2.heap.size + 1), 0, none⟩ = some (.slice A ys.length cp) := blk_cell h6 0
  clear hI h6 hown x5
  go_wp2_with fail
  clear q6
  go_loopw [63] (fun iv wr => ∃ k : Nat, k ≤ ys.length ∧ iv = .int .i64 (k : Int) ∧ Below w9.heap.size w9 wr) (fun iv _ => ys.length - (intOf iv).toNat)
  case atStart => exact ⟨0, Nat.zero_le _, rfl, Below.refl _ _⟩
  case round =>
    obtain ⟨k, hk, rfl, hbr⟩ := hrel
    by_cases hlt : k < ys.length
    · obtain ⟨y, hy⟩ : ∃ y, ys[k]? = some y := ⟨_, List.getElem?_eq_getElem hlt⟩
      obtain ⟨hbad, hsm⟩ := HBS.out y (List.mem_of_getElem? hy)
      obtain ⟨b, o, rfl, hbs, hc⟩ := (HIn.out.below hbr) k y hy
      have CY := Lib.hid (iCheck y hsm)
      have e1 : (chkE y == 0) = false := by rw [beq_eq_false_iff_ne]; exact hbad
      clear hy hbad
      have p0 := hc.c0
      have p1 := hc.c1
      have p2 := hc.c2
      have p3 := hc.c3
      have p4 := hc.c4
      have p5 := hc.c5
      have p6 := hc.c6
      have p7 := hc.c7
      have p8 := hc.c8
      have p9 := hc.c9
      have p10 := hc.c10
      have p11 := hc.c11
      have p12 := hc.c12
      have p13 := hc.c13
      have p14 := hc.c14
      have hbA := below_alloc wr (.cells #[Value.string ⟨List.toArray y.id⟩, Value.int .i64 y.kind, Value.string ⟨List.toArray y.cur⟩, Value.int .i64 y.places, Value.int .i64 y.issued, Value.int .i64 y.matures, Value.string ⟨List.toArray y.fn⟩, Value.string ⟨List.toArray y.fd⟩, Value.string ⟨List.toArray y.cn⟩, Value.string ⟨List.toArray y.cd⟩, Value.int .i64 y.months, Value.int .i64 y.count, Value.string ⟨List.toArray y.other⟩, Value.string ⟨List.toArray y.sn⟩, Value.string ⟨List.toArray y.sd⟩] 47)
      go_wp2_with fail
      ((with_reducible refine (CY.out.of hG (bto (bto hb hbr) hbA)).mono ?_); rintro e wn ⟨rfl, hbn⟩)
      have hbr2 := bto (bto hbr hbA) hbn
      clear hbn hbA hc p0 p1 p2 p3 p4 p5 p6 p7 p8 p9 p10 p11 p12 p13 p14
      go_wp2
      go_roundw
      case rel => exact ⟨k + 1, by omega, by go_num, hbr2⟩
      case measure => simp [intOf]; omega
    · replace x2 := x2.below hbr
      replace hb := bto hb hbr
      clear hbr HIn HBS hn
      have f0 := x2.f 0
      have z0 := x2.setId id
      have hb' := below_set1 hb (Nat.le_refl _) 0 (.string ⟨id.toArray⟩)
      have p0 := x2.c0
      have HC := Lib.hid (CI.out.of hG hb')
      have z1 := z0.c0
      have z2 := z0.c1
      have z3 := z0.c2
      have z4 := z0.c3
      have z5 := z0.c4
      have z6 := z0.c5
      have z7 := z0.c6
      have z8 := z0.c7
      have z9 := z0.c8
      have z10 := z0.c9
      have z11 := z0.c10
      have z12 := z0.c11
      have z13 := z0.c12
      have z14 := z0.c13
      have z15 := z0.c14
      go_wp2_with fail
      ((with_reducible refine HC.out.mono ?_); rintro e wn ⟨rfl, hbn⟩)
      replace hb := bto hb' hbn
      clear hbn hb' p0 f0 z0 HC z1 z2 z3 z4 z5 z6 z7 z8 z9 z10 z11 z12 z13 z14 z15
      have hi := HI.out
      go_wp2_with fail
      ((with_reducible refine (CN.out.of hG hb).mono ?_); rintro e wm ⟨rfl, hbm⟩)
      replace hb := bto hb hbm
      clear hbm x2
      go_wp2_with fail
      ((with_reducible refine (CW.out.of hG hb).mono ?_); rintro e w10 ⟨rfl, hb10⟩)
      replace hb := bto hb hb10
      clear hb10
      go_wp2
      go_ret
      exact ⟨rfl, hb⟩
set_option maxHeartbeats 4000000 in
set_option maxRecDepth 100000 in
theorem fields_0 (x : Ins) (K : Hid (¬ x.kind = 2 ∧ ¬ x.kind = 5)) (id : List UInt8) (w : World) (hG : Glob w) :
    Calls Tryz.prog 7 #[(Value.agg #[Value.string ⟨List.toArray x.id⟩, Value.int .i64 x.kind, Value.string ⟨List.toArray x.cur⟩, Value.int .i64 x.places, Value.int .i64 x.issued, Value.int .i64 x.matures, Value.string ⟨List.toArray x.fn⟩, Value.string ⟨List.toArray x.fd⟩, Value.string ⟨List.toArray x.cn⟩, Value.string ⟨List.toArray x.cd⟩, Value.int .i64 x.months, Value.int .i64 x.count, Value.string ⟨List.toArray x.other⟩, Value.string ⟨List.toArray x.sn⟩, Value.string ⟨List.toArray x.sd⟩]), .string ⟨id.toArray⟩] w fun e w' => e = .returned (.bool true) ∧ Below w.heap.size w w' := by
  have CW := Lib.hid rAwake10
  have x2 := IBox.new w x 47
  have hb := below_alloc w (.cells #[Value.string ⟨List.toArray x.id⟩, Value.int .i64 x.kind, Value.string ⟨List.toArray x.cur⟩, Value.int .i64 x.places, Value.int .i64 x.issued, Value.int .i64 x.matures, Value.string ⟨List.toArray x.fn⟩, Value.string ⟨List.toArray x.fd⟩, Value.string ⟨List.toArray x.cn⟩, Value.string ⟨List.toArray x.cd⟩, Value.int .i64 x.months, Value.int .i64 x.count, Value.string ⟨List.toArray x.other⟩, Value.string ⟨List.toArray x.sn⟩, Value.string ⟨List.toArray x.sd⟩] 47)
  have HGr := Lib.hid (great_one_f (w.alloc (.cells #[Value.string ⟨List.toArray x.id⟩, Value.int .i64 x.kind, Value.string ⟨List.toArray x.cur⟩, Value.int .i64 x.places, Value.int .i64 x.issued, Value.int .i64 x.matures, Value.string ⟨List.toArray x.fn⟩, Value.string ⟨List.toArray x.fd⟩, Value.string ⟨List.toArray x.cn⟩, Value.string ⟨List.toArray x.cd⟩, Value.int .i64 x.months, Value.int .i64 x.count, Value.string ⟨List.toArray x.other⟩, Value.string ⟨List.toArray x.sn⟩, Value.string ⟨List.toArray x.sd⟩] 47)) x 47 _ (World.size_alloc _ _))
  go_enter Tryz.func7, Tryz.ntmps7
  go_wp2_with fail
  ((with_reducible refine HGr.out.mono ?_); rintro e w1 ⟨hres, hb1⟩)
  replace x2 := x2.below hb1
  replace hb := bto hb hb1
  clear HGr hb1
  rcases hres with rfl | ⟨rfl, hx⟩
  · go_wp2_with fail
    ((with_reducible refine (CW.out.of hG hb).mono ?_); rintro e w2 ⟨rfl, hb2⟩)
    go_wp2
    go_ret
    exact ⟨rfl, bto hb hb2⟩
  by_cases hs : 60 < id.length
  · have e1 : decide (60 < id.length) = true := decide_eq_true hs
    go_wp2_with fail
    ((with_reducible refine (CW.out.of hG hb).mono ?_); rintro e w2 ⟨rfl, hb2⟩)
    replace x2 := x2.below hb2
    replace hb := bto hb hb2
    clear hb2
    go_wp2
    go_ret
    exact ⟨rfl, hb⟩
  have e1 : decide (60 < id.length) = false := decide_eq_false hs
  have CK := Lib.hid (iCheck x hx)
  by_cases h0 : chkE x = 0
  rotate_left
  · have e2 : (chkE x == 0) = false := by rw [beq_eq_false_iff_ne]; exact h0
    have e3 := bneq' e2
    have qx2_0 := x2.c0
    have qx2_1 := x2.c1
    have qx2_2 := x2.c2
    have qx2_3 := x2.c3
    have qx2_4 := x2.c4
    have qx2_5 := x2.c5
    have qx2_6 := x2.c6
    have qx2_7 := x2.c7
    have qx2_8 := x2.c8
    have qx2_9 := x2.c9
    have qx2_10 := x2.c10
    have qx2_11 := x2.c11
    have qx2_12 := x2.c12
    have qx2_13 := x2.c13
    have qx2_14 := x2.c14
    go_wp2_with fail
    ((with_reducible refine (CK.out.of hG hb).mono ?_); rintro e w2 ⟨rfl, hb2⟩)
    clear qx2_0 qx2_1 qx2_2 qx2_3 qx2_4 qx2_5 qx2_6 qx2_7 qx2_8 qx2_9 qx2_10 qx2_11 qx2_12 qx2_13 qx2_14
    replace x2 := x2.below hb2
    replace hb := bto hb hb2
    clear hb2
    go_wp2_with fail
    ((with_reducible refine (CW.out.of hG hb).mono ?_); rintro e w3 ⟨rfl, hb3⟩)
    replace x2 := x2.below hb3
    replace hb := bto hb hb3
    clear hb3
    go_wp2
    go_ret
    exact ⟨rfl, hb⟩
  have CI := Lib.hid (iCheck { x with id := id } (small_id hx id (by omega)))
  have HI := Lib.hid (chk_id h0 id)
  have CN := Lib.hid (iName (l := id) (by omega))
  rw [h0] at CK
  clear h0
  have qx2_0 := x2.c0
  have qx2_1 := x2.c1
  have qx2_2 := x2.c2
  have qx2_3 := x2.c3
  have qx2_4 := x2.c4
  have qx2_5 := x2.c5
  have qx2_6 := x2.c6
  have qx2_7 := x2.c7
  have qx2_8 := x2.c8
  have qx2_9 := x2.c9
  have qx2_10 := x2.c10
  have qx2_11 := x2.c11
  have qx2_12 := x2.c12
  have qx2_13 := x2.c13
  have qx2_14 := x2.c14
  go_wp2_with fail
  ((with_reducible refine (CK.out.of hG hb).mono ?_); rintro e w2 ⟨rfl, hb2⟩)
  clear qx2_0 qx2_1 qx2_2 qx2_3 qx2_4 qx2_5 qx2_6 qx2_7 qx2_8 qx2_9 qx2_10 qx2_11 qx2_12 qx2_13 qx2_14
  replace x2 := x2.below hb2
  replace hb := bto hb hb2
  clear hb2
  clear CK e1 hs
  have x5 := (FBox.new w2 (.string ⟨#[49]⟩) (.string ⟨#[]⟩) 24).below (below_alloc _ (.cells #[.slice none 0 0] 49))
  have hA5 := below_alloc w2 (.cells #[.string ⟨#[49]⟩, .string ⟨#[]⟩] 24)
  have hA6 := below_alloc (w2.alloc (.cells #[.string ⟨#[49]⟩, .string ⟨#[]⟩] 24)) (.cells #[.slice none 0 0] 49)
  have x2 := (x2.below hA5).below hA6
  have x6 : Coll ((w2.alloc (.cells #[.string ⟨#[49]⟩, .string ⟨#[]⟩] 24)).alloc (.cells #[.slice none 0 0] 49)) (w2.heap.size + 1 + 1) (w2.heap.size + 1) [] := by
    refine ⟨.slice none 0 0, ?_, rfl, .inl ⟨rfl, rfl⟩⟩
    have := heap_alloc_new (w2.alloc (.cells #[.string ⟨#[49]⟩, .string ⟨#[]⟩] 24)) (.cells #[.slice none 0 0] 49)
    rw [World.size_alloc] at this
    exact this
  have h25 : w.heap.size < w2.heap.size + 1 := by have := hb.size; omega
  have h56 : w2.heap.size < w2.heap.size + 1 := by omega
  have hwb : w.heap.size ≤ w2.heap.size + 1 := by omega
  replace hb := bto (bto hb hA5) hA6
  clear hA5 hA6
  have e2 : (x.kind == 2) = false := by rw [beq_eq_false_iff_ne]; exact K.out.1
  have e3 := bneq' e2
  have e5 : (x.kind == 5) = false := by rw [beq_eq_false_iff_ne]; exact K.out.2
  have e6 := bneq' e5
  have hA := addC 52 callK2 x (mod2 x) w.heap.size w2.heap.size (w2.heap.size + 1) h25 h56 (fun w b h h5 => chg2 x w b w2.heap.size h h5) [] (by simp) ((w2.alloc (.cells #[.string ⟨#[49]⟩, .string ⟨#[]⟩] 24)).alloc (.cells #[.slice none 0 0] 49)) x2 x5 x6
  have HA := Lib.hid hA
  clear hA
  have qx2_1 := x2.c1
  go_wp2_with fail
  ((with_reducible refine HA.out.mono ?_); rintro e w3 ⟨rfl, hb3, x6⟩)
  clear HA
  clear qx2_1
  replace x2 := x2.belowB hb3 h25
  replace x5 := x5.belowB hb3 h56
  replace hb := hb.trans (hb3.mono hwb)
  clear hb3
  have hA := addC 53 callK3 x (mod3 x) w.heap.size w2.heap.size (w2.heap.size + 1) h25 h56 (fun w b h h5 => chg3 x w b w2.heap.size h h5) [mod2 x] (by simp) w3 x2 x5 x6
  have HA := Lib.hid hA
  clear hA
  have qx2_1 := x2.c1
  go_wp2_with fail
  ((with_reducible refine HA.out.mono ?_); rintro e w4 ⟨rfl, hb4, x6⟩)
  clear HA
  clear qx2_1
  replace x2 := x2.belowB hb4 h25
  replace x5 := x5.belowB hb4 h56
  replace hb := hb.trans (hb4.mono hwb)
  clear hb4
  have hA := addN 54 callK4 x (mod4 x) w.heap.size w2.heap.size (w2.heap.size + 1) h25 h56 (fun w b h _ => chg4 x w b h) [mod2 x, mod3 x] (by simp) w4 x2 x5 x6
  have HA := Lib.hid hA
  clear hA
  have qx2_1 := x2.c1
  go_wp2_with fail
  ((with_reducible refine HA.out.mono ?_); rintro e w5 ⟨rfl, hb5, x6⟩)
  clear HA
  clear qx2_1
  replace x2 := x2.belowB hb5 h25
  replace x5 := x5.belowB hb5 h56
  replace hb := hb.trans (hb5.mono hwb)
  clear hb5
  have hA := addN 55 callK5 x (mod5 x) w.heap.size w2.heap.size (w2.heap.size + 1) h25 h56 (fun w b h _ => chg5 x w b h) [mod2 x, mod3 x, mod4 x] (by simp) w5 x2 x5 x6
  have HA := Lib.hid hA
  clear hA
  have qx2_1 := x2.c1
  go_wp2_with fail
  ((with_reducible refine HA.out.mono ?_); rintro e w6 ⟨rfl, hb6, x6⟩)
  clear HA
  clear qx2_1
  replace x2 := x2.belowB hb6 h25
  replace x5 := x5.belowB hb6 h56
  replace hb := hb.trans (hb6.mono hwb)
  clear hb6
  have hA := addC 56 callK6 x (mod6 x) w.heap.size w2.heap.size (w2.heap.size + 1) h25 h56 (fun w b h h5 => chg6 x w b w2.heap.size h h5) [mod2 x, mod3 x, mod4 x, mod5 x] (by simp) w6 x2 x5 x6
  have HA := Lib.hid hA
  clear hA
  have qx2_1 := x2.c1
  go_wp2_with fail
  ((with_reducible refine HA.out.mono ?_); rintro e w7 ⟨rfl, hb7, x6⟩)
  clear HA
  clear qx2_1
  replace x2 := x2.belowB hb7 h25
  replace x5 := x5.belowB hb7 h56
  replace hb := hb.trans (hb7.mono hwb)
  clear hb7
  have hA := addN 57 callK7 x (mod7 x) w.heap.size w2.heap.size (w2.heap.size + 1) h25 h56 (fun w b h _ => chg7 x w b h) [mod2 x, mod3 x, mod4 x, mod5 x, mod6 x] (by simp) w7 x2 x5 x6
  have HA := Lib.hid hA
  clear hA
  have qx2_1 := x2.c1
  go_wp2_with fail
  ((with_reducible refine HA.out.mono ?_); rintro e w8 ⟨rfl, hb8, x6⟩)
  clear HA
  clear qx2_1
  replace x2 := x2.belowB hb8 h25
  replace x5 := x5.belowB hb8 h56
  replace hb := hb.trans (hb8.mono hwb)
  clear hb8
  have hA := addN 59 callK9 x (mod9 x) w.heap.size w2.heap.size (w2.heap.size + 1) h25 h56 (fun w b h _ => chg9 x w b h) [mod2 x, mod3 x, mod4 x, mod5 x, mod6 x, mod7 x] (by simp) w8 x2 x5 x6
  have HA := Lib.hid hA
  clear hA
  have qx2_1 := x2.c1
  go_wp2_with fail
  ((with_reducible refine HA.out.mono ?_); rintro e w9 ⟨rfl, hb9, x6⟩)
  clear HA
  clear qx2_1
  replace x2 := x2.belowB hb9 h25
  replace x5 := x5.belowB hb9 h56
  replace hb := hb.trans (hb9.mono hwb)
  clear hb9
  have hA := addN 60 callK10 x (mod10 x) w.heap.size w2.heap.size (w2.heap.size + 1) h25 h56 (fun w b h _ => chg10 x w b h) [mod2 x, mod3 x, mod4 x, mod5 x, mod6 x, mod7 x, mod9 x] (by simp) w9 x2 x5 x6
  have HA := Lib.hid hA
  clear hA
  have qx2_1 := x2.c1
  go_wp2_with fail
  ((with_reducible refine HA.out.mono ?_); rintro e w10 ⟨rfl, hb10, x6⟩)
  clear HA
  clear qx2_1
  replace x2 := x2.belowB hb10 h25
  replace x5 := x5.belowB hb10 h56
  replace hb := hb.trans (hb10.mono hwb)
  clear hb10
  have HBS : Hid (∀ y ∈ [mod2 x, mod3 x, mod4 x, mod5 x, mod6 x, mod7 x, mod9 x, mod10 x], BadSmall y) := by
    intro y hy
    simp only [List.mem_cons, List.not_mem_nil, or_false] at hy
    rcases hy with rfl | rfl | rfl | rfl | rfl | rfl | rfl | rfl
    · exact bs2 hx K.out.1
    · exact bs3 hx K.out.1
    · exact bs4 hx K.out.1
    · exact bs5 hx K.out.1
    · exact bs6 hx K.out.2
    · exact bs7 hx K.out.2
    · exact bs9 hx
    · exact bs10 hx
  have hn : ([mod2 x, mod3 x, mod4 x, mod5 x, mod6 x, mod7 x, mod9 x, mod10 x] : List Ins).length ≤ 100 := by simp
  replace x6 : Coll w10 ((w2.heap.size + 1) + 1) (w2.heap.size + 1) [mod2 x, mod3 x, mod4 x, mod5 x, mod6 x, mod7 x, mod9 x, mod10 x] := x6
  generalize ([mod2 x, mod3 x, mod4 x, mod5 x, mod6 x, mod7 x, mod9 x, mod10 x] : List Ins) = ys at *
  obtain ⟨v, h6, hown⟩ := x6
  obtain ⟨A, cp, rfl⟩ := own_form' hown
  have hI := own_insAt hown rfl
  have HIn := Lib.hid hI
  have q6 : w10.cell? ⟨(w2.heap.size + 1), 0, none⟩ = some (.slice A ys.length cp) := blk_cell h6 0
  clear hI h6 hown x5
  go_wp2_with fail
  clear q6
  go_loopw [63] (fun iv wr => ∃ k : Nat, k ≤ ys.length ∧ iv = .int .i64 (k : Int) ∧ Below w10.heap.size w10 wr) (fun iv _ => ys.length - (intOf iv).toNat)
  case atStart => exact ⟨0, Nat.zero_le _, rfl, Below.refl _ _⟩
  case round =>
    obtain ⟨k, hk, rfl, hbr⟩ := hrel
    by_cases hlt : k < ys.length
    · obtain ⟨y, hy⟩ : ∃ y, ys[k]? = some y := ⟨_, List.getElem?_eq_getElem hlt⟩
      obtain ⟨hbad, hsm⟩ := HBS.out y (List.mem_of_getElem? hy)
      obtain ⟨b, o, rfl, hbs, hc⟩ := (HIn.out.below hbr) k y hy
      have CY := Lib.hid (iCheck y hsm)
      have e1 : (chkE y == 0) = false := by rw [beq_eq_false_iff_ne]; exact hbad
      clear hy hbad
      have p0 := hc.c0
      have p1 := hc.c1
      have p2 := hc.c2
      have p3 := hc.c3
      have p4 := hc.c4
      have p5 := hc.c5
      have p6 := hc.c6
      have p7 := hc.c7
      have p8 := hc.c8
      have p9 := hc.c9
      have p10 := hc.c10
      have p11 := hc.c11
      have p12 := hc.c12
      have p13 := hc.c13
      have p14 := hc.c14
      have hbA := below_alloc wr (.cells #[Value.string ⟨List.toArray y.id⟩, Value.int .i64 y.kind, Value.string ⟨List.toArray y.cur⟩, Value.int .i64 y.places, Value.int .i64 y.issued, Value.int .i64 y.matures, Value.string ⟨List.toArray y.fn⟩, Value.string ⟨List.toArray y.fd⟩, Value.string ⟨List.toArray y.cn⟩, Value.string ⟨List.toArray y.cd⟩, Value.int .i64 y.months, Value.int .i64 y.count, Value.string ⟨List.toArray y.other⟩, Value.string ⟨List.toArray y.sn⟩, Value.string ⟨List.toArray y.sd⟩] 47)
      go_wp2_with fail
      ((with_reducible refine (CY.out.of hG (bto (bto hb hbr) hbA)).mono ?_); rintro e wn ⟨rfl, hbn⟩)
      have hbr2 := bto (bto hbr hbA) hbn
      clear hbn hbA hc p0 p1 p2 p3 p4 p5 p6 p7 p8 p9 p10 p11 p12 p13 p14
      go_wp2
      go_roundw
      case rel => exact ⟨k + 1, by omega, by go_num, hbr2⟩
      case measure => simp [intOf]; omega
    · replace x2 := x2.below hbr
      replace hb := bto hb hbr
      clear hbr HIn HBS hn
      have f0 := x2.f 0
      have z0 := x2.setId id
      have hb' := below_set1 hb (Nat.le_refl _) 0 (.string ⟨id.toArray⟩)
      have p0 := x2.c0
      have HC := Lib.hid (CI.out.of hG hb')
      have z1 := z0.c0
      have z2 := z0.c1
      have z3 := z0.c2
      have z4 := z0.c3
      have z5 := z0.c4
      have z6 := z0.c5
      have z7 := z0.c6
      have z8 := z0.c7
      have z9 := z0.c8
      have z10 := z0.c9
      have z11 := z0.c10
      have z12 := z0.c11
      have z13 := z0.c12
      have z14 := z0.c13
      have z15 := z0.c14
      go_wp2_with fail
      ((with_reducible refine HC.out.mono ?_); rintro e wn ⟨rfl, hbn⟩)
      replace hb := bto hb' hbn
      clear hbn hb' p0 f0 z0 HC z1 z2 z3 z4 z5 z6 z7 z8 z9 z10 z11 z12 z13 z14 z15
      have hi := HI.out
      go_wp2_with fail
      ((with_reducible refine (CN.out.of hG hb).mono ?_); rintro e wm ⟨rfl, hbm⟩)
      replace hb := bto hb hbm
      clear hbm x2
      go_wp2_with fail
      ((with_reducible refine (CW.out.of hG hb).mono ?_); rintro e w11 ⟨rfl, hb11⟩)
      replace hb := bto hb hb11
      clear hb11
      go_wp2
      go_ret
      exact ⟨rfl, hb⟩
theorem fields_law (x : Ins) (id : List UInt8) (w : World) (hG : Glob w) :
    Calls Tryz.prog 7 #[(Value.agg #[Value.string ⟨List.toArray x.id⟩, Value.int .i64 x.kind, Value.string ⟨List.toArray x.cur⟩, Value.int .i64 x.places, Value.int .i64 x.issued, Value.int .i64 x.matures, Value.string ⟨List.toArray x.fn⟩, Value.string ⟨List.toArray x.fd⟩, Value.string ⟨List.toArray x.cn⟩, Value.string ⟨List.toArray x.cd⟩, Value.int .i64 x.months, Value.int .i64 x.count, Value.string ⟨List.toArray x.other⟩, Value.string ⟨List.toArray x.sn⟩, Value.string ⟨List.toArray x.sd⟩]), .string ⟨id.toArray⟩] w fun e w' => e = .returned (.bool true) ∧ Below w.heap.size w w' := by
  by_cases h2 : x.kind = 2
  · exact fields_2 x h2 id w hG
  · by_cases h5 : x.kind = 5
    · exact fields_5 x h5 id w hG
    · exact fields_0 x ⟨h2, h5⟩ id w hG
end Go.Proofs.YtdbmjbcgcajojaaGreatDoor
