/- Package instrument: known. -/
import Derived.Test.YtmjglcgdcclinaaGreatDoorIn
import Derived.Test.YtmjglcgdcclinaaGreatDoorMc
namespace Go.Proofs.YtmjglcgdcclinaaGreatDoor
open Go.RowKit Num
theorem info_str : (Tryz.prog.info? 9).map (fun i => (i.zero, i.size, i.bytes)) = some (some (.string ⟨#[]⟩), 1, 16) := by kernel_rfl
/-- a slice of strings -/
def StrAt (w : World) (A : Option Addr) (ss : List (List UInt8)) : Prop := ∀ (i : Nat) (s : List UInt8), ss[i]? = some s → ∃ b o, A = some ⟨b, o, none⟩ ∧ b < w.heap.size ∧ w.cell? ⟨b, o + i, none⟩ = some (.string ⟨s.toArray⟩)
theorem StrAt.below {w w' : World} {A : Option Addr} {ss : List (List UInt8)} (h : StrAt w A ss) (hb : Below w.heap.size w w') : StrAt w' A ss := fun i s hs => by
  obtain ⟨b, o, rfl, h1, h2⟩ := h i s hs
  exact ⟨b, o, rfl, Nat.lt_of_lt_of_le h1 hb.size, (hb.cell (p := ⟨b, o + i, none⟩) h1).trans h2⟩
abbrev Sv (ss : List (List UInt8)) : List Value := ss.map fun s => Value.string ⟨s.toArray⟩
theorem own_strAt {w : World} {base n c : Nat} {A : Option Addr} {ss : List (List UInt8)} {e : TypeId} (h : w.ownsRow base e 1 (.slice A n c) n (Sv ss)) (hn : n = ss.length) : StrAt w A ss := fun i s hs => by
  have hi := (List.getElem?_eq_some_iff.1 hs).1
  rcases h.2 with ⟨hv, h0⟩ | ⟨g, cap, cur, hv, hb, hh, _⟩
  · omega
  · injection hv with h1 _ h3
    subst h1 h3
    refine ⟨g, 0, rfl, (Array.getElem?_eq_some_iff.1 hh).1, ?_⟩
    rw [Nat.zero_add, h.cellAt i (by omega)]
    simp [hs]
def codesOf (x : Ins) : List (List UInt8) := if x.kind = 5 then [x.cur, x.other] else [x.cur]
def knownE (x : Ins) (ts : List Cur) : Int := if (codesOf x).all (fun s => (findT ts s).isSome) = true then 0 else 12
set_option maxHeartbeats 2000000 in
set_option maxRecDepth 100000 in
theorem iKnown (x : Ins) (A : Option Addr) (ts : List Cur) (n c : Nat) (w : World) (hn : ts.length = n) (hn2 : n ≤ 1000000000) (h : CurAt w A ts) :
    Calls Tryz.prog 68 #[(Value.agg #[Value.string ⟨List.toArray x.id⟩, Value.int .i64 x.kind, Value.string ⟨List.toArray x.cur⟩, Value.int .i64 x.places, Value.int .i64 x.issued, Value.int .i64 x.matures, Value.string ⟨List.toArray x.fn⟩, Value.string ⟨List.toArray x.fd⟩, Value.string ⟨List.toArray x.cn⟩, Value.string ⟨List.toArray x.cd⟩, Value.int .i64 x.months, Value.int .i64 x.count, Value.string ⟨List.toArray x.other⟩, Value.string ⟨List.toArray x.sn⟩, Value.string ⟨List.toArray x.sd⟩]), .slice A n c] w fun e w' => e = .returned (.int .i64 (knownE x ts)) ∧ Below w.heap.size w w' := by
  obtain ⟨i0, hi, hz0, hz1, hz2⟩ := info_parts info_str
  have CF : ∀ (s : List UInt8) (w' : World), Below w.heap.size w w' → Calls Tryz.prog 61 #[.slice A n c, .string ⟨s.toArray⟩] w' fun e w'' => e = .returned (curV (findT ts s)) ∧ Below w'.heap.size w' w'' := fun s w' hb' => mFind A ts n c s w' hn hn2 (h.below hb')
  have HF := Lib.hid CF
  clear CF h hn hn2
  have hb0 := below_alloc w (.cells #[Value.string ⟨List.toArray x.id⟩, Value.int .i64 x.kind, Value.string ⟨List.toArray x.cur⟩, Value.int .i64 x.places, Value.int .i64 x.issued, Value.int .i64 x.matures, Value.string ⟨List.toArray x.fn⟩, Value.string ⟨List.toArray x.fd⟩, Value.string ⟨List.toArray x.cn⟩, Value.string ⟨List.toArray x.cd⟩, Value.int .i64 x.months, Value.int .i64 x.count, Value.string ⟨List.toArray x.other⟩, Value.string ⟨List.toArray x.sn⟩, Value.string ⟨List.toArray x.sd⟩] 34)
  have x2 := IBox.new w x 34
  by_cases k5 : x.kind = 5
  · have e1 : (x.kind == 5) = true := by rw [beq_iff_eq]; exact k5
    have hcs : codesOf x = [x.cur, x.other] := if_pos k5
    have HV : Hid (([x.cur, x.other].all (fun s => (findT ts s).isSome) = true → knownE x ts = 0) ∧ ([x.cur, x.other].all (fun s => (findT ts s).isSome) = false → knownE x ts = 12)) := by
      unfold knownE; rw [hcs]; exact ⟨fun h => if_pos h, fun h => if_neg (by rw [h]; decide)⟩
    have hbC := below_alloc (w.alloc (.cells #[Value.string ⟨List.toArray x.id⟩, Value.int .i64 x.kind, Value.string ⟨List.toArray x.cur⟩, Value.int .i64 x.places, Value.int .i64 x.issued, Value.int .i64 x.matures, Value.string ⟨List.toArray x.fn⟩, Value.string ⟨List.toArray x.fd⟩, Value.string ⟨List.toArray x.cn⟩, Value.string ⟨List.toArray x.cd⟩, Value.int .i64 x.months, Value.int .i64 x.count, Value.string ⟨List.toArray x.other⟩, Value.string ⟨List.toArray x.sn⟩, Value.string ⟨List.toArray x.sd⟩] 34)) (.cells #[.string ⟨x.cur.toArray⟩] 9)
    have own0 : ((w.alloc (.cells #[Value.string ⟨List.toArray x.id⟩, Value.int .i64 x.kind, Value.string ⟨List.toArray x.cur⟩, Value.int .i64 x.places, Value.int .i64 x.issued, Value.int .i64 x.matures, Value.string ⟨List.toArray x.fn⟩, Value.string ⟨List.toArray x.fd⟩, Value.string ⟨List.toArray x.cn⟩, Value.string ⟨List.toArray x.cd⟩, Value.int .i64 x.months, Value.int .i64 x.count, Value.string ⟨List.toArray x.other⟩, Value.string ⟨List.toArray x.sn⟩, Value.string ⟨List.toArray x.sd⟩] 34)).alloc (.cells #[.string ⟨x.cur.toArray⟩] 9)).ownsRow (w.heap.size + 1) 9 1 (.slice (some ⟨w.heap.size + 1, 0, none⟩) 1 1) 1 (Sv [x.cur]) := by
      have := heap_alloc_new (w.alloc (.cells #[Value.string ⟨List.toArray x.id⟩, Value.int .i64 x.kind, Value.string ⟨List.toArray x.cur⟩, Value.int .i64 x.places, Value.int .i64 x.issued, Value.int .i64 x.matures, Value.string ⟨List.toArray x.fn⟩, Value.string ⟨List.toArray x.fd⟩, Value.string ⟨List.toArray x.cn⟩, Value.string ⟨List.toArray x.cd⟩, Value.int .i64 x.months, Value.int .i64 x.count, Value.string ⟨List.toArray x.other⟩, Value.string ⟨List.toArray x.sn⟩, Value.string ⟨List.toArray x.sd⟩] 34)) (.cells #[.string ⟨x.cur.toArray⟩] 9)
      rw [World.size_alloc] at this
      exact ⟨rfl, .inr ⟨_, 1, _, rfl, Nat.le_refl _, this, Nat.le_refl _, by unfold maxLen; omega, rfl, rfl⟩⟩
    have own1 : (((w.alloc (.cells #[Value.string ⟨List.toArray x.id⟩, Value.int .i64 x.kind, Value.string ⟨List.toArray x.cur⟩, Value.int .i64 x.places, Value.int .i64 x.issued, Value.int .i64 x.matures, Value.string ⟨List.toArray x.fn⟩, Value.string ⟨List.toArray x.fd⟩, Value.string ⟨List.toArray x.cn⟩, Value.string ⟨List.toArray x.cd⟩, Value.int .i64 x.months, Value.int .i64 x.count, Value.string ⟨List.toArray x.other⟩, Value.string ⟨List.toArray x.sn⟩, Value.string ⟨List.toArray x.sd⟩] 34)).alloc (.cells #[.string ⟨x.cur.toArray⟩] 9)).alloc (.cells #[.string ⟨x.other.toArray⟩] 9)).ownsRow (w.heap.size + 1) 9 1 (.slice (some ⟨w.heap.size + 1, 0, none⟩) 1 1) 1 (Sv [x.cur]) := own_below own0 (below_alloc _ _)
    replace x2 := x2.below hbC
    have hb := bto hb0 hbC
    have p1 := x2.c1
    have p2 := x2.c2
    have p12 := x2.c12
    clear k5 hcs own0 hbC hb0
    go_enter Tryz.func68, Tryz.ntmps68
    go_wp2_with (at_builtin; refine wpList_append_own _ rfl _ _ 155 rfl (w.heap.size + 1) 9 i0 (.string ⟨#[]⟩) 1 16 Tryz.underlying155 hi hz0 hz1 hz2 rfl (by decide) _ _ _ rfl own1 ⟨w.heap.size + 2, 0, none⟩ 1 1 [.string ⟨x.other.toArray⟩] rfl rfl ?c1 ?c2 ?c3 ?c4 ?c5 ?_)
    case c1 =>
      intro j u hu
      cases j with
      | zero => simp at hu; subst hu; rw [Lib.add_plain]; simp [go_sem]
      | succ j => simp at hu
    case c2 => intro u hu; simp at hu; subst hu; rfl
    case c3 => unfold maxLen; omega
    case c4 => omega
    case c5 => simp
    intro v' w3 hown' hgrow _
    have hb3 : Below (w.heap.size + 1) ((w.alloc (.cells #[Value.string ⟨List.toArray x.id⟩, Value.int .i64 x.kind, Value.string ⟨List.toArray x.cur⟩, Value.int .i64 x.places, Value.int .i64 x.issued, Value.int .i64 x.matures, Value.string ⟨List.toArray x.fn⟩, Value.string ⟨List.toArray x.fd⟩, Value.string ⟨List.toArray x.cn⟩, Value.string ⟨List.toArray x.cd⟩, Value.int .i64 x.months, Value.int .i64 x.count, Value.string ⟨List.toArray x.other⟩, Value.string ⟨List.toArray x.sn⟩, Value.string ⟨List.toArray x.sd⟩] 34)).alloc (.cells #[.string ⟨x.cur.toArray⟩] 9)) w3 := ((Below.refl _ ((w.alloc (.cells #[Value.string ⟨List.toArray x.id⟩, Value.int .i64 x.kind, Value.string ⟨List.toArray x.cur⟩, Value.int .i64 x.places, Value.int .i64 x.issued, Value.int .i64 x.matures, Value.string ⟨List.toArray x.fn⟩, Value.string ⟨List.toArray x.fd⟩, Value.string ⟨List.toArray x.cn⟩, Value.string ⟨List.toArray x.cd⟩, Value.int .i64 x.months, Value.int .i64 x.count, Value.string ⟨List.toArray x.other⟩, Value.string ⟨List.toArray x.sn⟩, Value.string ⟨List.toArray x.sd⟩] 34)).alloc (.cells #[.string ⟨x.cur.toArray⟩] 9))).alloc (by simp) _).grown hgrow (by simp) (own_block_ge own1)
    have hbn : Below w.heap.size w w3 := hb.trans (hb3.mono (by omega))
    obtain ⟨A', c', rfl⟩ := own_form hown'
    have HS := Lib.hid (own_strAt (ss := [x.cur, x.other]) hown' rfl)
    replace hb := hbn
    clear hown' hgrow hb3 hbn p1 p2 p12 own1 x2 e1
    go_wp2_with fail
    obtain ⟨cs, hcs⟩ : ∃ cs, cs = [x.cur, x.other] := ⟨_, rfl⟩
    rw [← hcs] at HS HV
    obtain ⟨m, hm⟩ : ∃ m, m = cs.length := ⟨_, rfl⟩
    have hm1 : m ≤ cs.length := by omega
    have hm2 : cs.length ≤ m := by omega
    have hm3 : m ≤ 2 := by rw [hm, hcs]; simp
    have hm4 : (2 : Nat) = m := by rw [hm, hcs]; rfl
    clear hcs hm
    subst hm4
    go_loopw [23] (fun iv wr => ∃ k : Nat, k ≤ 2 ∧ iv = .int .i64 (k : Int) ∧ Hid ((cs.take k).all (fun s => (findT ts s).isSome) = true) ∧ Below w3.heap.size w3 wr) (fun iv _ => 2 - (intOf iv).toNat)
    case atStart => exact ⟨0, Nat.zero_le _, rfl, rfl, Below.refl _ _⟩
    case round =>
      obtain ⟨k, hk, rfl, HK, hbr⟩ := hrel
      by_cases hlt : k < 2
      · obtain ⟨s, hs⟩ : ∃ s, cs[k]? = some s := ⟨_, List.getElem?_eq_getElem (by omega)⟩
        obtain ⟨b, o, rfl, hbs, p0⟩ := (HS.out.below hbr) k s hs
        have hbt := bto hb hbr
        have CS := HF.out s wr hbt
        have HG1 : Hid ((findT ts s).isSome = true → (cs.take (k + 1)).all (fun s => (findT ts s).isSome) = true) := fun hq => by
          rw [List.take_succ_eq_append_getElem (by omega), List.all_append, HK.out]
          have := (List.getElem?_eq_some_iff.1 hs).2
          rw [this]; simp [hq]
        have HG2 : Hid ((findT ts s).isSome = false → cs.all (fun s => (findT ts s).isSome) = false) := fun hq => by
          rw [List.all_eq_false]; exact ⟨s, List.mem_of_getElem? hs, by simp [hq]⟩
        clear hs HK
        generalize findT ts s = fo at CS HG1 HG2
        cases fo with
        | none =>
          unfold curV at CS
          have HC := Lib.hid CS
          have HR := Lib.hid (HV.out.2 (HG2.out rfl))
          clear CS HG1 HG2
          go_wp2_with fail
          ((with_reducible refine HC.out.mono ?_); rintro e w2 ⟨rfl, hb2⟩)
          go_wp2
          go_ret
          exact ⟨reti HR.out.symm, bto (bto hbt hb2) (below_alloc _ _)⟩
        | some u =>
          unfold curV at CS
          have HC := Lib.hid CS
          have HR := Lib.hid (HG1.out rfl)
          clear CS HG1 HG2
          go_wp2_with fail
          ((with_reducible refine HC.out.mono ?_); rintro e w2 ⟨rfl, hb2⟩)
          have hbr2 := bto (bto hbr hb2) (below_alloc w2 (.cells #[.string ⟨u.code.toArray⟩, .int .i64 u.places] 82))
          clear hb2
          go_wp2
          go_roundw
          case rel => exact ⟨k + 1, by omega, by go_num, HR, hbr2⟩
          case measure => simp [intOf]; omega
      · have HR := Lib.hid (HV.out.1 (by have := HK.out; rw [List.take_of_length_le (by omega)] at this; exact this))
        go_wp2
        go_ret
        exact ⟨reti HR.out.symm, bto hb hbr⟩
  · have e1 : (x.kind == 5) = false := by rw [beq_eq_false_iff_ne]; exact k5
    have hcs : codesOf x = [x.cur] := if_neg k5
    have HV : Hid (([x.cur].all (fun s => (findT ts s).isSome) = true → knownE x ts = 0) ∧ ([x.cur].all (fun s => (findT ts s).isSome) = false → knownE x ts = 12)) := by
      unfold knownE; rw [hcs]; exact ⟨fun h => if_pos h, fun h => if_neg (by rw [h]; decide)⟩
    have hbC := below_alloc (w.alloc (.cells #[Value.string ⟨List.toArray x.id⟩, Value.int .i64 x.kind, Value.string ⟨List.toArray x.cur⟩, Value.int .i64 x.places, Value.int .i64 x.issued, Value.int .i64 x.matures, Value.string ⟨List.toArray x.fn⟩, Value.string ⟨List.toArray x.fd⟩, Value.string ⟨List.toArray x.cn⟩, Value.string ⟨List.toArray x.cd⟩, Value.int .i64 x.months, Value.int .i64 x.count, Value.string ⟨List.toArray x.other⟩, Value.string ⟨List.toArray x.sn⟩, Value.string ⟨List.toArray x.sd⟩] 34)) (.cells #[.string ⟨x.cur.toArray⟩] 9)
    have own0 : ((w.alloc (.cells #[Value.string ⟨List.toArray x.id⟩, Value.int .i64 x.kind, Value.string ⟨List.toArray x.cur⟩, Value.int .i64 x.places, Value.int .i64 x.issued, Value.int .i64 x.matures, Value.string ⟨List.toArray x.fn⟩, Value.string ⟨List.toArray x.fd⟩, Value.string ⟨List.toArray x.cn⟩, Value.string ⟨List.toArray x.cd⟩, Value.int .i64 x.months, Value.int .i64 x.count, Value.string ⟨List.toArray x.other⟩, Value.string ⟨List.toArray x.sn⟩, Value.string ⟨List.toArray x.sd⟩] 34)).alloc (.cells #[.string ⟨x.cur.toArray⟩] 9)).ownsRow (w.heap.size + 1) 9 1 (.slice (some ⟨w.heap.size + 1, 0, none⟩) 1 1) 1 (Sv [x.cur]) := by
      have := heap_alloc_new (w.alloc (.cells #[Value.string ⟨List.toArray x.id⟩, Value.int .i64 x.kind, Value.string ⟨List.toArray x.cur⟩, Value.int .i64 x.places, Value.int .i64 x.issued, Value.int .i64 x.matures, Value.string ⟨List.toArray x.fn⟩, Value.string ⟨List.toArray x.fd⟩, Value.string ⟨List.toArray x.cn⟩, Value.string ⟨List.toArray x.cd⟩, Value.int .i64 x.months, Value.int .i64 x.count, Value.string ⟨List.toArray x.other⟩, Value.string ⟨List.toArray x.sn⟩, Value.string ⟨List.toArray x.sd⟩] 34)) (.cells #[.string ⟨x.cur.toArray⟩] 9)
      rw [World.size_alloc] at this
      exact ⟨rfl, .inr ⟨_, 1, _, rfl, Nat.le_refl _, this, Nat.le_refl _, by unfold maxLen; omega, rfl, rfl⟩⟩
    replace x2 := x2.below hbC
    have hb := bto hb0 hbC
    have HS := Lib.hid (own_strAt (ss := [x.cur]) own0 rfl)
    have p1 := x2.c1
    have p2 := x2.c2
    clear k5 hcs own0 hbC hb0
    go_enter Tryz.func68, Tryz.ntmps68
    go_wp2_with fail
    generalize hW : ((w.alloc (.cells #[Value.string ⟨List.toArray x.id⟩, Value.int .i64 x.kind, Value.string ⟨List.toArray x.cur⟩, Value.int .i64 x.places, Value.int .i64 x.issued, Value.int .i64 x.matures, Value.string ⟨List.toArray x.fn⟩, Value.string ⟨List.toArray x.fd⟩, Value.string ⟨List.toArray x.cn⟩, Value.string ⟨List.toArray x.cd⟩, Value.int .i64 x.months, Value.int .i64 x.count, Value.string ⟨List.toArray x.other⟩, Value.string ⟨List.toArray x.sn⟩, Value.string ⟨List.toArray x.sd⟩] 34)).alloc (.cells #[.string ⟨x.cur.toArray⟩] 9)) = w3 at *
    generalize hA0 : (some ⟨w.heap.size + 1, 0, none⟩ : Option Addr) = A0 at *
    clear hW hA0 p1 p2 x2 e1
    obtain ⟨cs, hcs⟩ : ∃ cs, cs = [x.cur] := ⟨_, rfl⟩
    rw [← hcs] at HS HV
    obtain ⟨m, hm⟩ : ∃ m, m = cs.length := ⟨_, rfl⟩
    have hm1 : m ≤ cs.length := by omega
    have hm2 : cs.length ≤ m := by omega
    have hm3 : m ≤ 2 := by rw [hm, hcs]; simp
    have hm4 : (1 : Nat) = m := by rw [hm, hcs]; rfl
    clear hcs hm
    subst hm4
    go_loopw [23] (fun iv wr => ∃ k : Nat, k ≤ 1 ∧ iv = .int .i64 (k : Int) ∧ Hid ((cs.take k).all (fun s => (findT ts s).isSome) = true) ∧ Below w3.heap.size w3 wr) (fun iv _ => 1 - (intOf iv).toNat)
    case atStart => exact ⟨0, Nat.zero_le _, rfl, rfl, Below.refl _ _⟩
    case round =>
      obtain ⟨k, hk, rfl, HK, hbr⟩ := hrel
      by_cases hlt : k < 1
      · obtain ⟨s, hs⟩ : ∃ s, cs[k]? = some s := ⟨_, List.getElem?_eq_getElem (by omega)⟩
        obtain ⟨b, o, rfl, hbs, p0⟩ := (HS.out.below hbr) k s hs
        have hbt := bto hb hbr
        have CS := HF.out s wr hbt
        have HG1 : Hid ((findT ts s).isSome = true → (cs.take (k + 1)).all (fun s => (findT ts s).isSome) = true) := fun hq => by
          rw [List.take_succ_eq_append_getElem (by omega), List.all_append, HK.out]
          have := (List.getElem?_eq_some_iff.1 hs).2
          rw [this]; simp [hq]
        have HG2 : Hid ((findT ts s).isSome = false → cs.all (fun s => (findT ts s).isSome) = false) := fun hq => by
          rw [List.all_eq_false]; exact ⟨s, List.mem_of_getElem? hs, by simp [hq]⟩
        clear hs HK
        generalize findT ts s = fo at CS HG1 HG2
        cases fo with
        | none =>
          unfold curV at CS
          have HC := Lib.hid CS
          have HR := Lib.hid (HV.out.2 (HG2.out rfl))
          clear CS HG1 HG2
          go_wp2_with fail
          ((with_reducible refine HC.out.mono ?_); rintro e w2 ⟨rfl, hb2⟩)
          go_wp2
          go_ret
          exact ⟨reti HR.out.symm, bto (bto hbt hb2) (below_alloc _ _)⟩
        | some u =>
          unfold curV at CS
          have HC := Lib.hid CS
          have HR := Lib.hid (HG1.out rfl)
          clear CS HG1 HG2
          go_wp2_with fail
          ((with_reducible refine HC.out.mono ?_); rintro e w2 ⟨rfl, hb2⟩)
          have hbr2 := bto (bto hbr hb2) (below_alloc w2 (.cells #[.string ⟨u.code.toArray⟩, .int .i64 u.places] 82))
          clear hb2
          go_wp2
          go_roundw
          case rel => exact ⟨k + 1, by omega, by go_num, HR, hbr2⟩
          case measure => simp [intOf]; omega
      · have HR := Lib.hid (HV.out.1 (by have := HK.out; rw [List.take_of_length_le (by omega)] at this; exact this))
        go_wp2
        go_ret
        exact ⟨reti HR.out.symm, bto hb hbr⟩
end Go.Proofs.YtmjglcgdcclinaaGreatDoor
