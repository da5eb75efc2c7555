/- Package instrument: Alive. -/
import Derived.Test.YtmmhimgkpfcokaaGreatDoorIp
namespace Go.Proofs.YtmmhimgkpfcokaaGreatDoor
open Go.RowKit Num
def isBad (x : Ins) : Bool := chkE x != 0
theorem call_alive1 (args : Array Value) (w : World) : (callFunc 87 args).run Tryz.prog w = .ok (.enter 87 args) w := by kernel_rfl
set_option maxRecDepth 100000 in
theorem iAliveClo (x : Ins) (hx : x.Small) : Ret 87 #[(Value.agg #[Value.string ⟨List.toArray x.id⟩, Value.int .i64 x.kind, Value.string ⟨List.toArray x.cur⟩, Value.int .i64 x.places, Value.int .i64 x.issued, Value.int .i64 x.matures, Value.string ⟨List.toArray x.fn⟩, Value.string ⟨List.toArray x.fd⟩, Value.string ⟨List.toArray x.cn⟩, Value.string ⟨List.toArray x.cd⟩, Value.int .i64 x.months, Value.int .i64 x.count, Value.string ⟨List.toArray x.other⟩, Value.string ⟨List.toArray x.sn⟩, Value.string ⟨List.toArray x.sd⟩])] (.bool (isBad x)) := fun w hG => by
  have C1 := Lib.hid (iCheck x hx)
  have x1 := IBox.new w x 34
  have hb := below_alloc w (.cells #[Value.string ⟨List.toArray x.id⟩, Value.int .i64 x.kind, Value.string ⟨List.toArray x.cur⟩, Value.int .i64 x.places, Value.int .i64 x.issued, Value.int .i64 x.matures, Value.string ⟨List.toArray x.fn⟩, Value.string ⟨List.toArray x.fd⟩, Value.string ⟨List.toArray x.cn⟩, Value.string ⟨List.toArray x.cd⟩, Value.int .i64 x.months, Value.int .i64 x.count, Value.string ⟨List.toArray x.other⟩, Value.string ⟨List.toArray x.sn⟩, Value.string ⟨List.toArray x.sd⟩] 34)
  have p0 := x1.c0
  have p1 := x1.c1
  have p2 := x1.c2
  have p3 := x1.c3
  have p4 := x1.c4
  have p5 := x1.c5
  have p6 := x1.c6
  have p7 := x1.c7
  have p8 := x1.c8
  have p9 := x1.c9
  have p10 := x1.c10
  have p11 := x1.c11
  have p12 := x1.c12
  have p13 := x1.c13
  have p14 := x1.c14
  go_enter Tryz.func87, Tryz.ntmps87
  go_wp2_with fail
  ((with_reducible refine (C1.out.of hG hb).mono ?_); rintro e w2 ⟨rfl, hb2⟩)
  go_wp2
  go_ret
  exact ⟨rfl, bto hb hb2⟩
theorem iContainsBad (A : Option Addr) (xs : List Ins) (n c : Nat) (w : World) (hG : Glob w) (hn : xs.length = n) (hn2 : n ≤ 1000000000) (hx : ∀ x ∈ xs, x.Small) (h : InsAt w A xs) :
    Calls Tryz.prog 86 #[.slice A n c, .func (Fn.func 87) #[] #[]] w fun e w' => e = .returned (.bool (xs.any isBad)) ∧ Below w.heap.size w w' := by
  have C1 := Lib.hid (idxFuncN 87 call_alive1 isBad A xs n c w hn hn2 h (fun x hm w' hb' => (iAliveClo x (hx x hm)).of hG hb'))
  have hm := idxB_any isBad xs 0
  generalize idxB isBad xs 0 = i at *
  have HV : Hid (decide (0 ≤ i) = xs.any isBad) := by
    show _ = _
    by_cases ha : xs.any isBad = true
    · rw [ha]; exact decide_eq_true (hm.2 ha)
    · rw [not_true_b ha]; exact decide_eq_false (fun g => ha (hm.1 g))
  clear hm h
  go_enter Tryz.func86, Tryz.ntmps86
  go_wp2_with fail
  ((with_reducible refine C1.out.mono ?_); rintro e w2 ⟨rfl, hb2⟩)
  go_wp2
  go_ret
  exact ⟨retb HV.out, hb2⟩
/-- the names of those that are alive -/
def aliveL (d : Int) : List Ins → List (List UInt8)
  | [] => []
  | x :: r => if stOf x d = 2 then x.id :: aliveL d r else aliveL d r
theorem aliveL_app (d : Int) : ∀ a b, aliveL d (a ++ b) = aliveL d a ++ aliveL d b
  | [], b => rfl
  | x :: a, b => by
    have ih := aliveL_app d a b
    show (if stOf x d = 2 then x.id :: aliveL d (a ++ b) else aliveL d (a ++ b)) = (if stOf x d = 2 then x.id :: aliveL d a else aliveL d a) ++ aliveL d b
    rw [ih]
    split <;> rfl
theorem aliveL_len (d : Int) : ∀ a, (aliveL d a).length ≤ a.length
  | [] => Nat.le_refl _
  | x :: a => by
    have := aliveL_len d a
    unfold aliveL
    split <;> simp <;> omega
def aliveE (xs : List Ins) (d : Int) : List (List UInt8) × Int := if xs.any isBad = true then ([], 1) else if ¬ dayB d = true then ([], 13) else (aliveL d xs, 0)
/-- a slice of strings and a number are returned -/
def StrsEnd (w : World) (r : List (List UInt8) × Int) (e : Ending) (w' : World) : Prop := ∃ A c, e = .returned (.tuple #[.slice A r.1.length c, .int .i64 r.2]) ∧ StrAt w' A r.1 ∧ Below w.heap.size w w'
theorem strAt_nil (w : World) (A : Option Addr) : StrAt w A [] := fun i s h => by simp at h
set_option maxHeartbeats 2000000 in
set_option maxRecDepth 100000 in
theorem iAlive (A : Option Addr) (xs : List Ins) (n c : Nat) (d : Int) (w : World) (hG : Glob w) (hn : xs.length = n) (hn2 : n ≤ 1000000) (hx : ∀ x ∈ xs, x.Small) (h : InsAt w A xs) :
    Calls Tryz.prog 26 #[.slice A n c, .int .i64 d] w (StrsEnd w (aliveE xs d)) := by
  obtain ⟨i0, hi, hz0, hz1, hz2⟩ := info_parts info_str
  have C1 := Lib.hid (iContainsBad A xs n c w hG hn (by omega) hx h)
  have C2 := Lib.hid (iValid d)
  have HI := Lib.hid h
  have hn1 : xs.length ≤ n := by omega
  have hn3 : n ≤ xs.length := by omega
  clear h hx hn
  by_cases g1 : xs.any isBad = true
  · have HV : Hid (aliveE xs d = ([], 1)) := if_pos g1
    rw [g1] at C1
    clear g1
    go_enter Tryz.func26, Tryz.ntmps26
    go_wp2_with fail
    ((with_reducible refine C1.out.mono ?_); rintro e w2 ⟨rfl, hb2⟩)
    go_wp2
    go_ret2
    unfold StrsEnd
    rw [HV.out]
    exact ⟨none, 0, rfl, strAt_nil _ _, hb2⟩
  by_cases g2 : dayB d = true
  rotate_left
  · have HV : Hid (aliveE xs d = ([], 13)) := by show _ = _; unfold aliveE; rw [if_neg g1, if_pos g2]
    rw [not_true_b g1] at C1
    rw [not_true_b g2] at C2
    clear g1 g2
    go_enter Tryz.func26, Tryz.ntmps26
    go_wp2_with fail
    ((with_reducible refine C1.out.mono ?_); rintro e w2 ⟨rfl, hb2⟩)
    go_wp2_with fail
    ((with_reducible refine (C2.out.of hG hb2).mono ?_); rintro e w3 ⟨rfl, hb3⟩)
    go_wp2
    go_ret2
    unfold StrsEnd
    rw [HV.out]
    exact ⟨none, 0, rfl, strAt_nil _ _, bto hb2 hb3⟩
  have HV : Hid (aliveE xs d = (aliveL d xs, 0)) := by show _ = _; unfold aliveE; rw [if_neg g1, if_neg (fun h => h g2)]
  rw [not_true_b g1] at C1
  rw [g2] at C2
  clear g1 g2
  go_enter Tryz.func26, Tryz.ntmps26
  go_wp2_with fail
  ((with_reducible refine C1.out.mono ?_); rintro e w2 ⟨rfl, hb2⟩)
  go_wp2_with fail
  ((with_reducible refine (C2.out.of hG hb2).mono ?_); rintro e w3 ⟨rfl, hb3⟩)
  have hb0 := bto hb2 hb3
  clear hb2 hb3 C1 C2
  go_wp2_with fail
  go_loopw [6, 16] (fun v iv wr => ∃ (k : Nat) (B : Option Addr) (cp : Nat), k ≤ n ∧ iv = .int .i64 (k : Int) ∧ v = .slice B (aliveL d (xs.take k)).length cp ∧ wr.ownsRow w.heap.size 9 1 (.slice B (aliveL d (xs.take k)).length cp) (aliveL d (xs.take k)).length (Sv (aliveL d (xs.take k))) ∧ Below w.heap.size w wr) (fun _ iv _ => n - (intOf iv).toNat)
  case atStart => exact ⟨0, none, 0, Nat.zero_le _, rfl, rfl, ⟨rfl, .inl ⟨rfl, rfl⟩⟩, hb0⟩
  case round =>
    obtain ⟨k, B, cp, hk, rfl, rfl, hown, hb⟩ := hrel
    by_cases hlt : k < n
    · obtain ⟨x, hxk⟩ : ∃ x, xs[k]? = some x := ⟨_, List.getElem?_eq_getElem (by omega)⟩
      obtain ⟨b, o, rfl, hbs, hc⟩ := (HI.out.below hb) k x hxk
      have hstep : aliveL d (xs.take (k + 1)) = aliveL d (xs.take k) ++ (if stOf x d = 2 then [x.id] else []) := by
        obtain ⟨hk', rfl⟩ := List.getElem?_eq_some_iff.1 hxk
        rw [List.take_succ_eq_append_getElem hk', aliveL_app]; rfl
      have hll := aliveL_len d (xs.take k)
      have hlk : (xs.take k).length ≤ k := List.length_take_le _ _
      have HS := Lib.hid hstep
      have HO := Lib.hid hown
      obtain ⟨L, hL⟩ : ∃ L, L = aliveL d (xs.take k) := ⟨_, rfl⟩
      rw [← hL] at HS HO hll ⊢
      clear hstep hxk hown hL
      have p0 := hc.c0
      have p1 := hc.c1
      have p2 := hc.c2
      have p3 := hc.c3
      have p4 := hc.c4
      have p5 := hc.c5
      have p6 := hc.c6
      have p7 := hc.c7
      have p8 := hc.c8
      have p9 := hc.c9
      have p10 := hc.c10
      have p11 := hc.c11
      have p12 := hc.c12
      have p13 := hc.c13
      have p14 := hc.c14
      have hbA := below_alloc wr (.cells #[Value.string ⟨List.toArray x.id⟩, Value.int .i64 x.kind, Value.string ⟨List.toArray x.cur⟩, Value.int .i64 x.places, Value.int .i64 x.issued, Value.int .i64 x.matures, Value.string ⟨List.toArray x.fn⟩, Value.string ⟨List.toArray x.fd⟩, Value.string ⟨List.toArray x.cn⟩, Value.string ⟨List.toArray x.cd⟩, Value.int .i64 x.months, Value.int .i64 x.count, Value.string ⟨List.toArray x.other⟩, Value.string ⟨List.toArray x.sn⟩, Value.string ⟨List.toArray x.sd⟩] 34)
      have x8 := IBox.new wr x 34
      have C3 := Lib.hid (iState0 x d)
      have hws : w.heap.size ≤ wr.heap.size := hb.size
      replace hb := bto hb hbA
      go_wp2_with fail
      ((with_reducible refine (C3.out.of hG hb).mono ?_); rintro e w4 ⟨rfl, hb4⟩)
      replace x8 := x8.below hb4
      replace hb := bto hb hb4
      have hown4 := own_below (own_below HO.out hbA) hb4
      clear hb4 hbA C3 hc HO p0 p1 p2 p3 p4 p5 p6 p7 p8 p9 p10 p11 p12 p13 p14
      by_cases hst : stOf x d = 2
      · have e1 : (stOf x d == 2) = true := by rw [beq_iff_eq]; exact hst
        have HS2 : Hid (aliveL d (xs.take (k + 1)) = L ++ [x.id]) := by show _ = _; rw [HS.out, if_pos hst]
        have own5 : (w4.alloc (.cells #[.string ⟨x.id.toArray⟩] 9)).ownsRow w.heap.size 9 1 (.slice B L.length cp) L.length (Sv L) := own_below hown4 (below_alloc _ _)
        have hw4 : w.heap.size ≤ w4.heap.size := hb.size
        have q0 := x8.c0
        clear hst HS hown4
        go_wp2_with (at_builtin; refine wpList_append_own _ rfl _ _ 45 rfl w.heap.size 9 i0 (.string ⟨#[]⟩) 1 16 Tryz.underlying45 hi hz0 hz1 hz2 rfl (by decide) _ _ _ rfl own5 ⟨w4.heap.size, 0, none⟩ 1 1 [.string ⟨x.id.toArray⟩] rfl rfl ?c1 ?c2 ?c3 ?c4 ?c5 ?_)
        case c1 =>
          intro j u hu
          cases j with
          | zero => simp at hu; subst hu; rw [Lib.add_plain]; simp [go_sem]
          | succ j => simp at hu
        case c2 => intro u hu; simp at hu; subst hu; rfl
        case c3 => unfold maxLen; omega
        case c4 => omega
        case c5 => simp; omega
        intro v' w5 hown' hgrow _
        have hb5 : Below w.heap.size w w5 := (hb.alloc hw4 _).grown hgrow (by simp; omega) (own_block_ge own5)
        obtain ⟨B', c', rfl⟩ := own_form hown'
        have HO2 : Hid (w5.ownsRow w.heap.size 9 1 (.slice B' (L ++ [x.id]).length c') (L ++ [x.id]).length (Sv (L ++ [x.id]))) := by
          have := hown'
          show World.ownsRow _ _ _ _ _ _ _
          rw [List.length_append, List.length_singleton]
          simpa [Sv] using this
        clear hown' hgrow own5 q0 e1
        go_wp2
        go_roundw
        case rel => exact ⟨k + 1, B', c', by omega, by go_num, by rw [HS2.out]; simp, by rw [HS2.out]; exact HO2.out, hb5⟩
        case measure => simp [intOf]; omega
      · have e1 : (stOf x d == 2) = false := by rw [beq_eq_false_iff_ne]; exact hst
        have HS2 : Hid (aliveL d (xs.take (k + 1)) = L) := by show _ = _; rw [HS.out, if_neg hst, List.append_nil]
        have HO2 := Lib.hid hown4
        clear hst HS hown4
        go_wp2
        go_roundw
        case rel => exact ⟨k + 1, B, cp, by omega, by go_num, by rw [HS2.out], by rw [HS2.out]; exact HO2.out, hb⟩
        case measure => simp [intOf]; omega
    · have htk : xs.take k = xs := List.take_of_length_le (by omega)
      rw [htk] at hown ⊢
      have HSt := Lib.hid (own_strAt hown rfl)
      clear hown htk
      go_wp2
      go_ret2
      unfold StrsEnd
      rw [HV.out]
      exact ⟨B, cp, rfl, HSt.out, hb⟩
end Go.Proofs.YtmmhimgkpfcokaaGreatDoor
