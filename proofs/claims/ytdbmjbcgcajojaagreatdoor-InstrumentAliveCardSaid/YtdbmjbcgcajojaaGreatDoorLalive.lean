/- InstrumentAlive. -/
import Derived.Test.YtdbmjbcgcajojaaGreatDoorIs
namespace Go.Proofs.YtdbmjbcgcajojaaGreatDoor
open Go.RowKit Num
theorem allL_zero {ts : List Cur} {xs : List Ins} (h : allL ts [] xs = 0) : ∀ k, k ≤ xs.length → allL ts (xs.take k) (xs.drop k) = 0
  | 0, _ => h
  | k + 1, hk => by
    have ih := allL_zero h k (by omega)
    have hs := allL_step (ts := ts) (List.getElem?_eq_getElem (show k < xs.length by omega))
    rw [ih] at hs
    split at hs
    · next h1 => exact absurd hs.symm h1
    · split at hs
      · exact absurd hs (by decide)
      · split at hs
        · exact absurd hs (by decide)
        · exact hs.symm
theorem allL_once {ts : List Cur} {xs : List Ins} (h : allL ts [] xs = 0) {k : Nat} {x : Ins} (hx : xs[k]? = some x) : idxB (isId x.id) xs 0 = k := by
  have hk := (List.getElem?_eq_some_iff.1 hx).1
  have hz := allL_zero h k (by omega)
  rw [allL_step hx] at hz
  have ha : ¬ (xs.take k).any (isId x.id) = true := by
    intro ha
    split at hz
    · next h1 => exact h1 hz
    · first | exact absurd hz (by decide) | (rw [if_pos ha] at hz; exact absurd hz (by decide))
  obtain ⟨_, rfl⟩ := List.getElem?_eq_some_iff.1 hx
  have e : xs = xs.take k ++ xs[k] :: xs.drop (k + 1) := by rw [← List.drop_eq_getElem_cons hk, List.take_append_drop]
  have h1 := idxB_app (isId xs[k].id) xs[k] (by unfold isId; rw [beq_iff_eq]) (xs.drop (k + 1)) (xs.take k) 0
  rw [← e, if_neg ha, List.length_take] at h1
  rw [h1]; congr 1; omega
theorem allE_zero {ts : List Cur} {xs : List Ins} (h : allE xs ts = 0) : allL ts [] xs = 0 := by
  unfold allE at h
  split at h
  · exact absurd h (by decide)
  · split at h
    · exact absurd h (by decide)
    · exact h
theorem stE_alive {xs : List Ins} {d : Int} (hg : xs.any isBad = false) (hd : dayB d = true) {x : Ins} (hx : x ∈ xs) : stE x d = (stOf x d, 0) := by
  have h0 : chkE x = 0 := by
    rw [List.any_eq_false] at hg
    have := hg x hx
    unfold isBad at this
    simpa using this
  unfold stE; rw [if_neg (fun h => h h0), if_neg (fun h => h hd)]
theorem aliveE_cases (xs : List Ins) (d : Int) : (aliveE xs d = ([], 1)) ∨ (aliveE xs d = ([], 13)) ∨ (aliveE xs d = (aliveL d xs, 0) ∧ xs.any isBad = false ∧ dayB d = true) := by
  unfold aliveE
  by_cases h1 : xs.any isBad = true
  · exact .inl (if_pos h1)
  · by_cases h2 : dayB d = true
    · exact .inr (.inr ⟨by rw [if_neg h1, if_neg (fun h => h h2)], not_true_b h1, h2⟩)
    · exact .inr (.inl (by rw [if_neg h1, if_pos h2]))
set_option maxHeartbeats 4000000 in
set_option maxRecDepth 100000 in
theorem alive_law (A : Option Addr) (xs : List Ins) (n c : Nat) (A2 : Option Addr) (ts : List Cur) (m c2 : Nat) (d : Int) (w : World) (hG : Glob w) (hn : xs.length = n) (hc : n ≤ c) (hnm : n ≤ 9223372036854775807) (h : InsAt w A xs) (hm : ts.length = m) (hc2 : m ≤ c2) (hs : ShortC ts) (h2 : CurAt w A2 ts) :
    Calls Tryz.prog 11 #[.slice A n c, .slice A2 m c2, .int .i64 d] w fun e w' => e = .returned (.bool true) ∧ Below w.heap.size w w' := by
  obtain ⟨i0, hi, hz0, hz1, hz2⟩ := info_parts info_str
  have CW := Lib.hid rAwake10
  have hgr := jGreat A xs c w (by omega) h
  rw [hn] at hgr
  have HGr := Lib.hid hgr
  have HI := Lib.hid h
  have H2 := Lib.hid h2
  have HN := Lib.hid hn
  have HM := Lib.hid hm
  have HSh := Lib.hid hs
  have hn1 : xs.length ≤ n := by omega
  have hn3 : n ≤ xs.length := by omega
  clear h h2 hn hm hs hgr
  go_enter Tryz.func11, Tryz.ntmps11
  go_wp2_with fail
  ((with_reducible refine HGr.out.mono ?_); rintro e w1 ⟨hres, hb⟩)
  clear HGr
  rcases hres with rfl | ⟨rfl, hx, hsn⟩
  · go_wp2_with fail
    ((with_reducible refine (CW.out.of hG hb).mono ?_); rintro e w2 ⟨rfl, hb2⟩)
    go_wp2
    go_ret
    exact ⟨rfl, bto hb hb2⟩
  by_cases h20 : 20 < m
  · have e1 : decide (20 < m) = true := decide_eq_true h20
    go_wp2_with fail
    ((with_reducible refine (CW.out.of hG hb).mono ?_); rintro e w2 ⟨rfl, hb2⟩)
    go_wp2
    go_ret
    exact ⟨rfl, bto hb hb2⟩
  have e1 : decide (20 < m) = false := decide_eq_false h20
  have hn67 : n ≤ 67 := by unfold SmallN at hsn; omega
  have HX := Lib.hid hx
  have cA := iAlive A xs n c d w1 (hG.below hb) HN.out (by omega) hx (HI.out.below hb)
  have hcs := aliveE_cases xs d
  unfold StrsEnd at cA
  have CAl := Lib.hid cA
  clear cA hx hsn
  go_wp2_with fail
  refine CAl.out.mono ?_
  rintro e w2 ⟨An, cn, rfl, hst, hb2⟩
  replace hb := bto hb hb2
  clear CAl hb2 e1
  rcases hcs with hcs | hcs | ⟨hcs, hg, hd⟩
  · rw [hcs] at hst ⊢
    clear hcs hst
    go_wp2_with fail
    ((with_reducible refine (CW.out.of hG hb).mono ?_); rintro e w3 ⟨rfl, hb3⟩)
    go_wp2
    go_ret
    exact ⟨rfl, bto hb hb3⟩
  · rw [hcs] at hst ⊢
    clear hcs hst
    go_wp2_with fail
    ((with_reducible refine (CW.out.of hG hb).mono ?_); rintro e w3 ⟨rfl, hb3⟩)
    go_wp2
    go_ret
    exact ⟨rfl, bto hb hb3⟩
  rw [hcs] at hst ⊢
  have HSt := Lib.hid hst
  have HE := Lib.hid (fun x hx => stE_alive (x := x) hg hd hx)
  clear hcs hst hg hd
  have HWn : Hid (StrAt w2 An (aliveL d xs)) := HSt.out
  go_wp2_with fail
  go_loopw [9, 42] (fun v iv wr => ∃ (k : Nat) (B : Option Addr) (cp : Nat), k ≤ n ∧ iv = .int .i64 (k : Int) ∧ v = .slice B (aliveL d (xs.take k)).length cp ∧ wr.ownsRow w2.heap.size 9 1 (.slice B (aliveL d (xs.take k)).length cp) (aliveL d (xs.take k)).length (Sv (aliveL d (xs.take k))) ∧ Below w2.heap.size w2 wr) (fun _ iv _ => n - (intOf iv).toNat)
  case atStart => exact ⟨0, none, 0, Nat.zero_le _, rfl, rfl, ⟨rfl, .inl ⟨rfl, rfl⟩⟩, Below.refl _ _⟩
  case round =>
    obtain ⟨k, B, cp, hk, rfl, rfl, hown, hbr⟩ := hrel
    have hbt := bto hb hbr
    by_cases hlt : k < n
    · obtain ⟨x, hxk⟩ : ∃ x, xs[k]? = some x := ⟨_, List.getElem?_eq_getElem (by omega)⟩
      obtain ⟨b, o, rfl, hbs, hc⟩ := (HI.out.below hbt) k x hxk
      have hsm := HX.out x (List.mem_of_getElem? hxk)
      have hse := HE.out x (List.mem_of_getElem? hxk)
      have hstep : aliveL d (xs.take (k + 1)) = aliveL d (xs.take k) ++ (if stOf x d = 2 then [x.id] else []) := by
        obtain ⟨hk', rfl⟩ := List.getElem?_eq_some_iff.1 hxk
        rw [List.take_succ_eq_append_getElem hk', aliveL_app]; rfl
      have hll := aliveL_len d (xs.take k)
      have hlk : (xs.take k).length ≤ k := List.length_take_le _ _
      have HS := Lib.hid hstep
      have HO := Lib.hid hown
      obtain ⟨L, hL⟩ : ∃ L, L = aliveL d (xs.take k) := ⟨_, rfl⟩
      rw [← hL] at HS HO hll ⊢
      have c3 := iState x hsm d
      rw [hse] at c3
      have C3 := Lib.hid c3
      clear hstep hxk hown hL hse c3
      have p0 := hc.c0
      have p1 := hc.c1
      have p2 := hc.c2
      have p3 := hc.c3
      have p4 := hc.c4
      have p5 := hc.c5
      have p6 := hc.c6
      have p7 := hc.c7
      have p8 := hc.c8
      have p9 := hc.c9
      have p10 := hc.c10
      have p11 := hc.c11
      have p12 := hc.c12
      have p13 := hc.c13
      have p14 := hc.c14
      have hbA := below_alloc wr (.cells #[Value.string ⟨List.toArray x.id⟩, Value.int .i64 x.kind, Value.string ⟨List.toArray x.cur⟩, Value.int .i64 x.places, Value.int .i64 x.issued, Value.int .i64 x.matures, Value.string ⟨List.toArray x.fn⟩, Value.string ⟨List.toArray x.fd⟩, Value.string ⟨List.toArray x.cn⟩, Value.string ⟨List.toArray x.cd⟩, Value.int .i64 x.months, Value.int .i64 x.count, Value.string ⟨List.toArray x.other⟩, Value.string ⟨List.toArray x.sn⟩, Value.string ⟨List.toArray x.sd⟩] 47)
      have x11 := IBox.new wr x 47
      go_wp2_with fail
      ((with_reducible refine (C3.out.of hG (bto hbt hbA)).mono ?_); rintro e w4 ⟨rfl, hb4⟩)
      replace x11 := x11.below hb4
      have hbr4 := bto (bto hbr hbA) hb4
      have hown4 := own_below (own_below HO.out hbA) hb4
      clear hb4 hbA C3 hc HO hbt p0 p1 p2 p3 p4 p5 p6 p7 p8 p9 p10 p11 p12 p13 p14
      by_cases hst : stOf x d = 2
      · have e1 : (stOf x d == 2) = true := by rw [beq_iff_eq]; exact hst
        have HS2 : Hid (aliveL d (xs.take (k + 1)) = L ++ [x.id]) := by show _ = _; rw [HS.out, if_pos hst]
        have own5 : (w4.alloc (.cells #[.string ⟨x.id.toArray⟩] 9)).ownsRow w2.heap.size 9 1 (.slice B L.length cp) L.length (Sv L) := own_below hown4 (below_alloc _ _)
        have hw4 : w2.heap.size ≤ w4.heap.size := hbr4.size
        have q0 := x11.c0
        clear hst HS hown4
        go_wp2_with (at_builtin; refine wpList_append_own _ rfl _ _ 73 rfl w2.heap.size 9 i0 (.string ⟨#[]⟩) 1 16 Tryz.underlying73 hi hz0 hz1 hz2 rfl (by decide) _ _ _ rfl own5 ⟨w4.heap.size, 0, none⟩ 1 1 [.string ⟨x.id.toArray⟩] rfl rfl ?c1 ?c2 ?c3 ?c4 ?c5 ?_)
        case c1 =>
          intro j u hu
          cases j with
          | zero => simp at hu; subst hu; rw [Lib.add_plain]; simp [go_sem]
          | succ j => simp at hu
        case c2 => intro u hu; simp at hu; subst hu; rfl
        case c3 => unfold maxLen; omega
        case c4 => omega
        case c5 => simp; omega
        intro v' w5 hown' hgrow _
        have hb5 : Below w2.heap.size w2 w5 := (hbr4.alloc hw4 _).grown hgrow (by simp; omega) (own_block_ge own5)
        obtain ⟨B', c', rfl⟩ := own_form hown'
        have HO2 : Hid (w5.ownsRow w2.heap.size 9 1 (.slice B' (L ++ [x.id]).length c') (L ++ [x.id]).length (Sv (L ++ [x.id]))) := by
          have := hown'
          show World.ownsRow _ _ _ _ _ _ _
          rw [List.length_append, List.length_singleton]
          simpa [Sv] using this
        clear hown' hgrow own5 q0 e1
        go_wp2
        go_roundw
        case rel => exact ⟨k + 1, B', c', by omega, by go_num, by rw [HS2.out]; simp, by rw [HS2.out]; exact HO2.out, hb5⟩
        case measure => simp [intOf]; omega
      · have e1 : (stOf x d == 2) = false := by rw [beq_eq_false_iff_ne]; exact hst
        have HS2 : Hid (aliveL d (xs.take (k + 1)) = L) := by show _ = _; rw [HS.out, if_neg hst, List.append_nil]
        have HO2 := Lib.hid hown4
        clear hst HS hown4
        go_wp2
        go_roundw
        case rel => exact ⟨k + 1, B, cp, by omega, by go_num, by rw [HS2.out], by rw [HS2.out]; exact HO2.out, hbr4⟩
        case measure => simp [intOf]; omega
    · have htk : xs.take k = xs := List.take_of_length_le (by omega)
      rw [htk] at hown ⊢
      have HWw := Lib.hid (own_strAt hown rfl)
      have hal := aliveL_len d xs
      have CC := Lib.hid (iCheckAll A xs n c A2 ts m c2 wr (hG.below hbt) HN.out hc HX.out (HI.out.below hbt) HM.out hc2 HSh.out (H2.out.below hbt) (by omega))
      clear hown htk
      obtain ⟨L, hL⟩ : ∃ L, L = aliveL d xs := ⟨_, rfl⟩
      rw [← hL] at HWw HWn hal ⊢
      clear hL
      go_wp2_with fail
      ((with_reducible refine CC.out.mono ?_); rintro e w6 ⟨rfl, hb6⟩)
      have hbr6 := bto hbr hb6
      have HW6 := Lib.hid (HWw.out.below hb6)
      have hbt6 := bto hbt hb6
      clear CC hb6
      by_cases g0 : allE xs ts = 0
      rotate_left
      · have e1 : (allE xs ts == 0) = false := by rw [beq_eq_false_iff_ne]; exact g0
        have CE := Lib.hid (eqStr An B L L.length cn cp w6 rfl (by omega) (HWn.out.below hbr6) HW6.out)
        clear g0
        go_wp2_with fail
        ((with_reducible refine CE.out.mono ?_); rintro e w7 ⟨rfl, hb7⟩)
        go_wp2_with fail
        ((with_reducible refine (CW.out.of hG (bto hbt6 hb7)).mono ?_); rintro e w8 ⟨rfl, hb8⟩)
        go_wp2
        go_ret
        exact ⟨rfl, bto (bto hbt6 hb7) hb8⟩
      have e1 : (allE xs ts == 0) = true := by rw [beq_iff_eq]; exact g0
      have HA := Lib.hid (fun k x hx => allL_once (allE_zero g0) (k := k) (x := x) hx)
      clear g0
      go_wp2_with fail
      clear e1
      go_loopw [68] (fun iv wz => ∃ j : Nat, j ≤ n ∧ iv = .int .i64 (j : Int) ∧ Below w6.heap.size w6 wz) (fun iv _ => n - (intOf iv).toNat)
      case atStart => exact ⟨0, Nat.zero_le _, rfl, Below.refl _ _⟩
      case round =>
        obtain ⟨j, hj, rfl, hbq⟩ := hrel
        have hbt7 := bto hbt6 hbq
        by_cases hjn : j < n
        · obtain ⟨x, hxk⟩ : ∃ x, xs[j]? = some x := ⟨_, List.getElem?_eq_getElem (by omega)⟩
          obtain ⟨b, o, rfl, hbs, hc⟩ := (HI.out.below hbt7) j x hxk
          have hbA := below_alloc wr (.cells #[Value.string ⟨List.toArray x.id⟩, Value.int .i64 x.kind, Value.string ⟨List.toArray x.cur⟩, Value.int .i64 x.places, Value.int .i64 x.issued, Value.int .i64 x.matures, Value.string ⟨List.toArray x.fn⟩, Value.string ⟨List.toArray x.fd⟩, Value.string ⟨List.toArray x.cn⟩, Value.string ⟨List.toArray x.cd⟩, Value.int .i64 x.months, Value.int .i64 x.count, Value.string ⟨List.toArray x.other⟩, Value.string ⟨List.toArray x.sn⟩, Value.string ⟨List.toArray x.sd⟩] 47)
          have cF := iFind _ xs n c x.id _ HN.out (by omega) (HI.out.below (bto hbt7 hbA))
          rw [HA.out j x hxk] at cF
          have ev : findV (j : Int) = .tuple #[.int .i64 (j : Int), .bool true] := by unfold findV; rw [decide_eq_true (by omega), show max (j : Int) 0 = j by omega]
          rw [ev] at cF
          have CF := Lib.hid cF
          clear hxk cF ev
          have p0 := hc.c0
          have p1 := hc.c1
          have p2 := hc.c2
          have p3 := hc.c3
          have p4 := hc.c4
          have p5 := hc.c5
          have p6 := hc.c6
          have p7 := hc.c7
          have p8 := hc.c8
          have p9 := hc.c9
          have p10 := hc.c10
          have p11 := hc.c11
          have p12 := hc.c12
          have p13 := hc.c13
          have p14 := hc.c14
          go_wp2_with fail
          ((with_reducible refine CF.out.mono ?_); rintro e w7 ⟨rfl, hb7⟩)
          have hbq2 := bto (bto hbq hbA) hb7
          clear CF hc hb7 hbA hbt7 p0 p1 p2 p3 p4 p5 p6 p7 p8 p9 p10 p11 p12 p13 p14
          go_wp2
          go_roundw
          case rel => exact ⟨j + 1, by omega, by go_num, hbq2⟩
          case measure => simp [intOf]; omega
        · have CE := Lib.hid (eqStr An B L L.length cn cp wr rfl (by omega) (HWn.out.below (bto hbr6 hbq)) (HW6.out.below hbq))
          go_wp2_with fail
          ((with_reducible refine CE.out.mono ?_); rintro e w7 ⟨rfl, hb7⟩)
          go_wp2_with fail
          ((with_reducible refine (CW.out.of hG (bto hbt7 hb7)).mono ?_); rintro e w8 ⟨rfl, hb8⟩)
          go_wp2
          go_ret
          exact ⟨rfl, bto (bto hbt7 hb7) hb8⟩
end Go.Proofs.YtdbmjbcgcajojaaGreatDoor
