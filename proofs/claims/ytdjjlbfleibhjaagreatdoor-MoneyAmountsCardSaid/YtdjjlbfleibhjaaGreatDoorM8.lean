/- Texts put together: Ng Nh. -/
import Derived.Test.YtdjjlbfleibhjaaGreatDoorM7
import Derived.Shelf.Spec.SlicesGrow
import Derived.Laws.AppendOwnNone
namespace Go.Proofs.YtdjjlbfleibhjaaGreatDoor
open Go.RowKit Num
/-- an amount that can be put -/
structure GM (m : Mon) : Prop where
  code : codeB m.cur = true
  can : m.amt = canon (val m.amt)
  len : m.amt.length ≤ 13
theorem one_bag (c : List UInt8) : bagE [⟨c, [49]⟩] = if ¬ codeB c = true then 23 else 0 := by
  unfold bagE
  rw [if_neg (show ¬ 16 < [(⟨c, [49]⟩ : Mon)].length from by show ¬ 16 < 1; decide)]
  show (if ¬ codeB c = true then (23 : Int) else if ¬ ([49] : List UInt8) = canon (val [49]) then 1 else if ([49] : List UInt8) = [] then 11 else if ordM none c = true then 8 else bagL (some c) []) = _
  by_cases h : codeB c = true
  · rw [if_neg (fun g => g h), if_neg (fun g => g (show ([49] : List UInt8) = canon (val [49]) by decide +kernel)), if_neg (show ¬ ([49] : List UInt8) = [] by decide), if_neg (show ¬ ordM none c = true from fun g => by cases g), if_neg (fun g => g h)]; rfl
  · rw [if_pos h, if_pos h]
set_option maxHeartbeats 4000000 in
set_option maxRecDepth 100000 in
theorem putsClo (m : Mon) (w : World) (hG : Glob w) : Calls Tryz.prog 37 #[.agg #[.string ⟨m.cur.toArray⟩, .string ⟨m.amt.toArray⟩]] w (GEnd (fun b => b = false → GM m) w) := by
  have HLg := Lib.hid (llongM m)
  have hb := below_alloc w (.cells #[.string ⟨m.cur.toArray⟩, .string ⟨m.amt.toArray⟩] 25)
  have x1 := FBox.new w (.string ⟨m.cur.toArray⟩) (.string ⟨m.amt.toArray⟩) 25
  have q0 := x1.c0
  have q1 := x1.c1
  go_enter Tryz.func37, Tryz.ntmps37
  go_wp2_with fail
  ((with_reducible refine (HLg.out.of hG hb).mono ?_); rintro e w2 ⟨rfl, hb2⟩)
  replace hb := bto hb hb2
  replace x1 := x1.below hb2
  have q0 := x1.c0
  have q1 := x1.c1
  clear hb2 HLg
  by_cases gL : longM m = true
  · rw [gL]
    go_wp2
    go_ret
    exact gend (fun h => by cases h) hb
  rw [not_true_b gL]
  have hL := longM_no (not_true_b gL)
  have C1 := Lib.hid (riCheck (l := m.amt) (by omega) rfl)
  have HL := Lib.hid hL
  clear gL hL
  go_wp2_with fail
  ((with_reducible refine (C1.out.of hG hb).mono ?_); rintro e w3 ⟨rfl, hb3⟩)
  replace hb := bto hb hb3
  replace x1 := x1.below hb3
  have q0 := x1.c0
  clear hb3 C1 q1
  by_cases gc : m.amt = canon (val m.amt)
  rotate_left
  · rw [if_neg gc]
    clear gc
    go_wp2
    go_ret
    exact gend (fun h => by cases h) hb
  rw [if_pos gc]
  have HC := Lib.hid gc
  have hbA := below_alloc w3 (.cells #[.string ⟨m.cur.toArray⟩, .string ⟨([49] : List UInt8).toArray⟩] 25)
  have hM : ML (w3.alloc (.cells #[.string ⟨m.cur.toArray⟩, .string ⟨([49] : List UInt8).toArray⟩] 25)) (some ⟨w3.heap.size, 0, none⟩) [⟨m.cur, [49]⟩] 1 := ml_one (heap_alloc_new w3 _) (by show m.cur.length ≤ 1000; have := HL.out; omega) (show ([49] : List UInt8).length ≤ 1000 by decide)
  have C2 := Lib.hid (mCheck _ [⟨m.cur, [49]⟩] 1 1 _ (hG.below (bto hb hbA)) hM)
  rw [one_bag] at C2
  replace hb := bto hb hbA
  clear hbA hM gc
  go_wp2_with fail
  refine C2.out.mono ?_
  rintro e w4 ⟨rfl, hb4⟩
  replace hb := bto hb hb4
  clear hb4 C2 q0 x1
  by_cases gd : codeB m.cur = true
  · rw [if_neg (fun g => g gd)]
    have HD := Lib.hid gd
    clear gd
    go_wp2
    go_ret
    exact gend (fun _ => ⟨HD.out, HC.out, HL.out.2⟩) hb
  · rw [if_pos gd]
    clear gd
    go_wp2
    go_ret
    exact gend (fun h => by cases h) hb
theorem enter_pM (args : Array Value) (w : World) : (callFunc 37 args).run Tryz.prog w = .ok (.enter 37 args) w := by kernel_rfl
set_option maxHeartbeats 2000000 in
set_option maxRecDepth 100000 in
theorem idxP (A : Option Addr) (ts : List Mon) (n c : Nat) (w : World) (hG : Glob w) (hn : ts.length = n) (hn2 : n ≤ 1000000000) (h : MonAt w A ts) :
    Calls Tryz.prog 98 #[.slice A n c, (.func (Fn.func 37) #[] #[])] w fun e w' => ∃ z : Int, e = .returned (.int .i64 z) ∧ (z < 0 → ∀ r ∈ ts, GM r) ∧ Below w.heap.size w w' := by
  have HI := Lib.hid h
  have hn1 : ts.length ≤ n := by omega
  have hn3 : n ≤ ts.length := by omega
  clear h hn
  have hcall := enter_pM
  go_enter Tryz.func98, Tryz.ntmps98
  go_wp2_with fail
  go_loopw [8] (fun iv wr => ∃ k : Nat, k ≤ n ∧ iv = .int .i64 (k : Int) ∧ Hid (∀ i r, i < k → ts[i]? = some r → GM r) ∧ Below w.heap.size w wr) (fun iv _ => n - (intOf iv).toNat)
  case atStart => exact ⟨0, Nat.zero_le _, rfl, fun i t hi => absurd hi (Nat.not_lt_zero _), Below.refl _ _⟩
  case round =>
    obtain ⟨k, hk, rfl, HK, hb⟩ := hrel
    by_cases hlt : k < n
    · obtain ⟨x, hx⟩ : ∃ x, ts[k]? = some x := ⟨_, List.getElem?_eq_getElem (by omega)⟩
      obtain ⟨b, o, rfl, hbs, p0, p1⟩ := (HI.out.below hb) k x hx
      have CP := Lib.hid (putsClo x wr (hG.below hb))
      have HX := Lib.hid hx
      clear hx
      go_wp2_with fail
      ((with_reducible refine CP.out.mono ?_); rintro e w2 ⟨q, rfl, hq, hb2⟩)
      have HQ := Lib.hid hq
      replace hb := bto hb hb2
      clear hb2 CP p0 p1 hq
      cases q with
      | true =>
        clear HK
        go_wp2
        go_ret
        exact ⟨_, rfl, fun h => absurd h (by omega), hb⟩
      | false =>
        have HV : Hid (∀ i r, i < k + 1 → ts[i]? = some r → GM r) := fun i r hi hr => by
          by_cases hik : i < k
          · exact HK.out i r hik hr
          · obtain rfl : i = k := by omega
            have := HX.out
            rw [hr] at this
            injection this with this
            subst this
            exact HQ.out rfl
        clear HK HX HQ
        go_wp2
        go_roundw
        case rel => exact ⟨k + 1, by omega, by go_num, HV.out, hb⟩
        case measure => simp [intOf]; omega
    · have HS : Hid (∀ r ∈ ts, GM r) := fun r hr => by
        obtain ⟨i, hi⟩ := List.mem_iff_getElem?.1 hr
        exact HK.out i r (by have := (List.getElem?_eq_some_iff.1 hi).1; omega) hi
      clear HK
      go_wp2
      go_ret
      exact ⟨_, rfl, fun _ => HS.out, hb⟩
set_option maxHeartbeats 2000000 in
set_option maxRecDepth 100000 in
theorem conP (A : Option Addr) (ts : List Mon) (n c : Nat) (w : World) (hG : Glob w) (hn : ts.length = n) (hn2 : n ≤ 1000000000) (h : MonAt w A ts) :
    Calls Tryz.prog 36 #[.slice A n c, (.func (Fn.func 37) #[] #[])] w (GEnd (fun b => b = false → ∀ r ∈ ts, GM r) w) := by
  have C1 := Lib.hid (idxP A ts n c w hG hn hn2 h)
  clear hn h
  go_enter Tryz.func36, Tryz.ntmps36
  go_wp2_with fail
  refine C1.out.mono ?_
  rintro e w2 ⟨z, rfl, hz, hb⟩
  have HZ := Lib.hid hz
  by_cases g : 0 ≤ z
  · have e1 : decide (0 ≤ z) = true := decide_eq_true g
    clear hz
    go_wp2
    go_ret
    exact gend (fun h => by cases h) hb
  · have e1 : decide (0 ≤ z) = false := decide_eq_false g
    clear hz
    go_wp2
    go_ret
    exact gend (fun _ => HZ.out (by omega)) hb
theorem BG.put {a : List Mon} {m : Mon} {k L : Nat} (h : BG a k L) (hk : 13 ≤ k) (hm : GM m) : BG (putL a m) (k + 1) (L + 1) := by
  refine ⟨put_bag h.bag m, fun x hx => ?_, put_lt h.bag h.amt (Nat.lt_of_lt_of_le (val_lt_of hm.len) (Nat.pow_le_pow_right (by decide) hk)), Nat.le_trans (smL_len a [m]) (Nat.add_le_add h.len (Nat.le_refl _))⟩
  rcases sum_key h.bag.srt (one_srt m) hx with ⟨y, hy, e⟩ | ⟨y, hy, e⟩
  · rw [← e]; exact h.codes y hy
  · rw [← e, List.mem_singleton.1 hy]; exact hm.code
theorem BG.puts : ∀ (l : List Mon) {a : List Mon} {k L : Nat}, BG a k L → 13 ≤ k → (∀ m ∈ l, GM m) → BG (l.foldl putL a) (k + l.length) (L + l.length)
  | [], a, k, L, h, _, _ => h
  | m :: r, a, k, L, h, hk, hm => by
    have := BG.puts r (h.put hk (hm m (by simp))) (by omega) (fun x hx => hm x (by simp [hx]))
    refine this.up ?_ ?_ <;> (simp; omega)
theorem puts_ok {l : List Mon} (h : l.length ≤ 8) (hm : ∀ m ∈ l, GM m) : BG (l.foldl putL []) 21 8 := (BG.puts l (BG.nil.up (Nat.zero_le 13) (Nat.le_refl _)) (Nat.le_refl _) hm).up (by omega) (by omega)
end Go.Proofs.YtdjjlbfleibhjaaGreatDoor
namespace Go.Proofs
open Go.Shelf
def Tryz.growMon_ren : Go.Shelf.Ren := ⟨fun | 4 => 105 | n => n, fun | 0 => 0 | 3 => 3 | 4 => 4 | 9 => 9 | 20 => 20 | 22 => 35 | 25 => 25 | n => n, fun | n => n⟩
theorem Tryz.growMon : Go.Proofs.Lays8.n4 Tryz.prog Tryz.growMon_ren := {
  mixed := by kernel_rfl
  f4 := ⟨Tryz.f105.name, by decide, Tryz.func105.trans (congrArg some (by kernel_rfl))⟩
  t0 := Tryz.underlying0
  a0 := Tryz.isAgg0
  z0 := Tryz.sizeOf0
  v0 := Tryz.zeroValue0
  t3 := Tryz.underlying3
  a3 := Tryz.isAgg3
  z3 := Tryz.sizeOf3
  v3 := Tryz.zeroValue3
  t4 := Tryz.underlying4
  a4 := Tryz.isAgg4
  z4 := Tryz.sizeOf4
  v4 := Tryz.zeroValue4
  t9 := Tryz.underlying9
  a9 := Tryz.isAgg9
  z9 := Tryz.sizeOf9
  v9 := Tryz.zeroValue9
  t20 := Tryz.underlying20
  a20 := Tryz.isAgg20
  z20 := Tryz.sizeOf20
  v20 := Tryz.zeroValue20
  t22 := Tryz.underlying35
  a22 := Tryz.isAgg35
  z22 := Tryz.sizeOf35
  v22 := Tryz.zeroValue35 }
end Go.Proofs
namespace Go.Proofs.YtdjjlbfleibhjaaGreatDoor
open Go.RowKit Num
theorem run_append_noneC {P : Program} {w : World} (base : Nat) (t ty e : TypeId) (i : TypeInfo) (size : Nat) (ht : P.underlying t = some (.slice e)) (hi : P.info? e = some i)
    (v : Value) (n c : Nat) (xs : List Value) (hown : w.ownsRow base e size v n xs) :
    (Builtin.append_ #[t, t] ty #[v, .slice none 0 c]).run P w = .ok v w := by
  rcases hown.2 with ⟨rfl, rfl⟩ | ⟨g, cap, cur, rfl, _, _, hnc, _⟩
  · simp [Builtin.append_, run_underlying ht, sizeOf, typeInfo, hi, Builtin.lenOf, Builtin.firstCells]
  · simp [Builtin.append_, run_underlying ht, sizeOf, typeInfo, hi, Builtin.lenOf, Builtin.firstCells, hnc, storeCells]
theorem wpList_append_noneC {P : Program} {w : World} {ops : Array Oper} {rest : List Oper} {o : Oper} {a : Act} {Q : Exit → Act → World → Prop} (hgd : o.guard = none) (s x : Operand) (t : TypeId)
    (ho : o.op = .call { callee := .builtin .append, args := #[s, x], argTypes := #[t, t] })
    (base : Nat) (e : TypeId) (i : TypeInfo) (size : Nat) (ht : P.underlying t = some (.slice e)) (hi : P.info? e = some i)
    (v : Value) (n c : Nat) (xs : List Value) (hs : a.eval s = v) (hown : w.ownsRow base e size v n xs) (hx : a.eval x = .slice none 0 c)
    (h : wpList P ops Q rest (a.put o.dst v) w) : wpList P ops Q (o :: rest) a w := by
  refine wpList_plain hgd fun K hK => ?_
  have hrun := run_append_noneC (P := P) (w := w) base t o.type e i size ht hi v n c xs hown
  unfold Oper.wp
  simp [execOp, ho, resolve, invoke, builtin, hs, hx, hrun, Result.andThen]
  exact hK _ _ h
/-- Grow of nothing -/
theorem growM (n : Nat) (w : World) (hn : n ≤ 1000) : Calls Tryz.prog 105 #[.slice none 0 0, .int .i64 n] w fun e w' => ∃ B cp, e = .returned (.slice B 0 cp) ∧ w'.ownsRow w.heap.size 25 2 (.slice B 0 cp) 0 [] ∧ Below w.heap.size w w' := by
  obtain ⟨i0, hi, hz0, hz1, hz2⟩ := info_parts info_mon
  by_cases h0 : n = 0
  · subst h0
    refine (Any8.slices_Grow_room Tryz.growMon none 0 0 0 w (Nat.le_refl _) (by decide) (by decide) (by decide)).mono ?_
    rintro e w' ⟨rfl, rfl⟩
    exact ⟨none, 0, rfl, World.ownsRow_nil _ _ _ _, Below.refl _ _⟩
  · refine (Any8.slices_Grow_grow Tryz.growMon i0 (.agg #[.string ⟨#[]⟩, .string ⟨#[]⟩]) hi hz0 (by rw [hz1]; decide) none 0 0 n [] w (Nat.le_refl _) (by omega) (by rw [hz2]; omega) (by omega) (by simp) (fun _ => rfl) (fun a ha => by cases ha)).mono ?_
    rintro e w' ⟨rfl, rfl⟩
    refine ⟨_, _, rfl, ?_, bto (Below.drew (Below.refl _ _)) (below_alloc w.drew _)⟩
    refine World.ownsRow_made w.drew _ _ (Nat.le_refl _) (grownCap_le_maxLen w _ _ _ (by unfold maxLen; omega)) ?_
    have hge := grownCap_ge w (0 + n) 0 25
    rw [Array.size_append, Array.size_append, size_zeroCells, size_zeroCells]
    show 0 + (0 + n - 0) * 2 + (grownCap w (0 + n) 0 25 - (0 + n)) * 2 = grownCap w (0 + n) 0 25 * 2
    omega
def catM (rs : List MRow) : List Mon := rs.flatMap (·.ts)
theorem cat_take {rs : List MRow} {k : Nat} {r : MRow} (h : rs[k]? = some r) : catM (rs.take (k + 1)) = catM (rs.take k) ++ r.ts := by
  obtain ⟨hk, rfl⟩ := List.getElem?_eq_some_iff.1 h
  unfold catM
  rw [List.take_add_one, List.getElem?_eq_getElem hk, List.flatMap_append]
  simp [List.flatMap_cons]
theorem mon_cells {w : World} {a : Addr} {ts : List Mon} (h : MonAt w (some a) ts) : ∀ j u, (rowsM ts)[j]? = some u → w.cell? (a.add j) = some u := fun j u hu => by
  obtain ⟨t, ht, he⟩ := rowsM_get hu
  obtain ⟨b, o, hA, -, h0, h1⟩ := h _ t ht
  injection hA with hA
  subst hA
  rw [Lib.add_plain]
  by_cases hj : j % 2 = 0
  · rw [if_pos hj] at he
    rw [he, ← h0, show o + j / 2 * 2 = o + j by omega]
  · rw [if_neg hj] at he
    rw [he, ← h1, show o + j / 2 * 2 + 1 = o + j by omega]
theorem mon_none {w : World} {ts : List Mon} (h : MonAt w none ts) : ts = [] := by
  cases ts with
  | nil => rfl
  | cons t r => obtain ⟨b, o, hA, -⟩ := h 0 t rfl; cases hA
theorem cat_le (rs : List MRow) (k : Nat) : (catM (rs.take k)).length ≤ (catM rs).length := by
  unfold catM
  conv => rhs; rw [← List.take_append_drop k rs]
  rw [List.flatMap_append, List.length_append]
  omega
set_option maxHeartbeats 4000000 in
set_option maxRecDepth 100000 in
theorem concatM (A : Option Addr) (rs : List MRow) (n c : Nat) (w : World) (hn : rs.length = n) (hn2 : n ≤ 1000) (h : RowAt w A rs) (hr : ∀ r ∈ rs, r.At w) (hL : (catM rs).length ≤ 1000) :
    Calls Tryz.prog 46 #[.slice A n c] w fun e w' => ∃ B cp, e = .returned (.slice B (catM rs).length cp) ∧ (catM rs).length ≤ cp ∧ MonAt w' B (catM rs) ∧ Below w.heap.size w w' := by
  obtain ⟨i0, hi, hz0, hz1, hz2⟩ := info_parts info_mon
  have HI := Lib.hid h
  have HR := Lib.hid hr
  have hn1 : rs.length ≤ n := by omega
  have hn3 : n ≤ rs.length := by omega
  have HL := Lib.hid (fun k => cat_le rs k)
  obtain ⟨T, hT⟩ : ∃ T, T = (catM rs).length := ⟨_, rfl⟩
  rw [← hT] at hL ⊢
  have HT := Lib.hid hT
  clear h hr hn hT
  go_enter Tryz.func46, Tryz.ntmps46
  go_wp2_with fail
  go_loopw [3, 11] (fun sv iv wr => ∃ (k s : Nat), k ≤ n ∧ iv = .int .i64 (k : Int) ∧ sv = .int .i64 (s : Int) ∧ Hid ((catM (rs.take k)).length = s) ∧ Below w.heap.size w wr) (fun _ iv _ => n - (intOf iv).toNat)
  case atStart => exact ⟨0, 0, Nat.zero_le _, rfl, rfl, rfl, Below.refl _ _⟩
  case round =>
    obtain ⟨k, s, hk, rfl, rfl, HS, hb⟩ := hrel
    have hs : s ≤ T := by have := HL.out k; rw [HS.out, ← HT.out] at this; exact this
    by_cases hlt : k < n
    · obtain ⟨r, hx⟩ : ∃ r, rs[k]? = some r := ⟨_, List.getElem?_eq_getElem (by omega)⟩
      obtain ⟨b, o, rfl, hbs, p0⟩ := (HI.out.below hb) k r hx
      have hA := HR.out r (List.mem_of_getElem? hx)
      have hl : s + r.n ≤ T := by have := HL.out (k + 1); rw [cat_take hx, List.length_append, HS.out, hA.len, ← HT.out] at this; exact this
      have HV : Hid ((catM (rs.take (k + 1))).length = s + r.n) := by show _ = _; rw [cat_take hx, List.length_append, HS.out, hA.len]
      unfold MRow.v at p0
      obtain ⟨RA, rts, rn, rc⟩ := r
      dsimp only at p0 hl HV
      have en : ¬ ((s : Int) + (rn : Int) < 0) := by omega
      clear hx hA HS
      go_wp2
      go_roundw
      case rel => exact ⟨k + 1, s + rn, by omega, by go_num, by go_num, HV, hb⟩
      case measure => simp [intOf]; omega
    · have hsT : s = T := by have := HS.out; rw [List.take_of_length_le (by omega), ← HT.out] at this; exact this.symm
      subst hsT
      obtain ⟨wq, hwq⟩ : ∃ wq, wq = wr := ⟨_, rfl⟩
      subst hwq
      have CG := Lib.hid (growM s wq hL)
      clear HS hs
      go_wp2_with fail
      refine CG.out.mono ?_
      rintro e w2 ⟨B, cp, rfl, hown, hb2⟩
      have HO := Lib.hid hown
      have hbz := hb2
      have HB0 := Lib.hid hb
      have hbs := hb.size
      clear CG hown
      go_wp2_with fail
      go_loopw [6, 27] (fun ov iv wz => ∃ (k m : Nat) (B : Option Addr) (cp : Nat), k ≤ n ∧ iv = .int .i64 (k : Int) ∧ ov = .slice B m cp ∧ Hid ((catM (rs.take k)).length = m) ∧ Hid (wz.ownsRow wq.heap.size 25 2 (.slice B m cp) m (rowsM (catM (rs.take k)))) ∧ Below wq.heap.size wq wz) (fun _ iv _ => n - (intOf iv).toNat)
      case atStart => exact ⟨0, 0, B, cp, Nat.zero_le _, rfl, rfl, rfl, HO.out, hbz⟩
      case round =>
        clear hb hbz HO
        obtain ⟨k, m, B, cp, hk, rfl, rfl, HS, HO, hbq⟩ := hrel
        have hb := bto HB0.out hbq
        by_cases hlt : k < n
        · obtain ⟨r, hx⟩ : ∃ r, rs[k]? = some r := ⟨_, List.getElem?_eq_getElem (by omega)⟩
          obtain ⟨b, o, rfl, hds, p0⟩ := (HI.out.below hb) k r hx
          have hA := (HR.out r (List.mem_of_getElem? hx)).below hb
          have hl : m + r.n ≤ s := by have := HL.out (k + 1); rw [cat_take hx, List.length_append, HS.out, hA.len, ← HT.out] at this; exact this
          have HV : Hid ((catM (rs.take (k + 1))).length = m + r.n) := by show _ = _; rw [cat_take hx, List.length_append, HS.out, hA.len]
          have HW := Lib.hid (cat_take hx)
          unfold MRow.v at p0
          obtain ⟨RA, rts, rn, rc⟩ := r
          dsimp only at p0 hl HV HW
          have hlen : rts.length = rn := hA.len
          have hM := Lib.hid (show MonAt wr RA rts from hA.mem)
          clear hx hA HS
          cases RA with
          | none =>
            obtain rfl := mon_none hM.out
            obtain rfl : rn = 0 := hlen.symm
            go_wp2_with (at_builtin; refine wpList_append_noneC rfl _ _ 35 rfl wq.heap.size 25 i0 2 Tryz.underlying35 hi _ m rc _ rfl HO.out rfl ?_)
            go_wp2
            go_roundw
            case rel => exact ⟨k + 1, m, B, cp, by omega, by go_num, rfl, HV, by show World.ownsRow _ _ _ _ _ _ _; rw [HW.out, List.append_nil]; exact HO.out, hbq⟩
            case measure => simp [intOf]; omega
          | some a =>
            go_wp2_with (at_builtin; refine wpList_append_own _ rfl _ _ 35 rfl wq.heap.size 25 i0 (.agg #[.string ⟨#[]⟩, .string ⟨#[]⟩]) 2 32 Tryz.underlying35 hi hz0 hz1 hz2 rfl (by decide) _ _ _ rfl HO.out a rn rc (rowsM rts) rfl ?qc1 ?qc2 ?qc3 ?qc4 ?qc5 ?qc6 ?_)
            case qc1 => rw [rowsM_len, hlen]
            case qc2 => exact mon_cells hM.out
            case qc3 => exact rowsM_one rts
            case qc4 => unfold maxLen; omega
            case qc5 => omega
            case qc6 => exact hbq.size
            intro v' w6 hown hgrow _
            obtain ⟨B', cp', rfl⟩ : ∃ B cp, v' = .slice B (m + rn) cp := by
              rcases hown.2 with ⟨rfl, h0⟩ | ⟨g, cap, cur, rfl, -⟩
              · exact ⟨none, 0, by rw [h0]⟩
              · exact ⟨_, _, rfl⟩
            have hb6 := Below.grown hbq hgrow hbq.size (fun j ej => own_ge HO.out j ej)
            have HO6 : Hid (w6.ownsRow wq.heap.size 25 2 (.slice B' (m + rn) cp') (m + rn) (rowsM (catM (rs.take (k + 1))))) := by
              show World.ownsRow _ _ _ _ _ _ _
              rw [HW.out, rowsM_app]; exact hown
            clear hown hgrow HO HW hM hb hbq
            go_wp2
            go_roundw
            case rel => exact ⟨k + 1, m + rn, B', cp', by omega, by go_num, rfl, HV, HO6.out, hb6⟩
            case measure => simp [intOf]; omega
        · have hfs : rs.take k = rs := List.take_of_length_le (by omega)
          rw [hfs] at HS HO
          have hm : m = s := by rw [← HS.out, HT.out]
          subst hm
          obtain ⟨C, cq, he, hle, hMo⟩ := own_mon HO.out HS.out
          injection he with he1 he2 he3
          subst he1 he3
          have HMo := Lib.hid hMo
          clear hMo hfs HS HO he2
          go_wp2
          go_ret
          exact ⟨_, _, rfl, hle, HMo.out, hb⟩
end Go.Proofs.YtdjjlbfleibhjaaGreatDoor
