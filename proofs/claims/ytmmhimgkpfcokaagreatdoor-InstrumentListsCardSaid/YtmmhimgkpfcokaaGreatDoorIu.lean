/- trancheref10: Alive. -/
import Derived.Test.YtmmhimgkpfcokaaGreatDoorIs
namespace Go.Proofs.YtmmhimgkpfcokaaGreatDoor
open Go.RowKit Num
theorem any_bad {xs : List Ins} {k : Nat} {x : Ins} (hx : xs[k]? = some x) (h : ¬ chkE x = 0) : xs.any isBad = true := by
  rw [List.any_eq_true]; exact ⟨x, List.mem_of_getElem? hx, by unfold isBad; simpa using h⟩
theorem own_empty (w : World) (base : Nat) (hb : base ≤ w.heap.size) : (w.alloc (.cells #[] 9)).ownsRow base 9 1 (.slice (some ⟨w.heap.size, 0, none⟩) 0 0) 0 (Sv []) :=
  ⟨rfl, .inr ⟨w.heap.size, 0, #[], rfl, hb, heap_alloc_new w _, Nat.le_refl _, by unfold maxLen; omega, rfl, rfl⟩⟩
set_option maxHeartbeats 4000000 in
set_option maxRecDepth 100000 in
theorem jAlive (A : Option Addr) (xs : List Ins) (n c : Nat) (d : Int) (w : World) (hG : Glob w) (hn : xs.length = n) (hn2 : n ≤ 1000000) (hx : ∀ x ∈ xs, x.Small) (h : InsAt w A xs) :
    Calls Tryz.prog 27 #[.slice A n c, .int .i64 d] w (StrsEnd w (aliveE xs d)) := by
  obtain ⟨i0, hi, hz0, hz1, hz2⟩ := info_parts info_str
  have c2 := jDay d
  have HI := Lib.hid h
  have HX := Lib.hid hx
  have hn1 : xs.length ≤ n := by omega
  have hn3 : n ≤ xs.length := by omega
  have HV1 : Hid (xs.any isBad = true → aliveE xs d = ([], 1)) := fun h => if_pos h
  have HV2 : Hid (xs.any isBad = false → dayB d = false → aliveE xs d = ([], 13)) := fun h g => by unfold aliveE; rw [if_neg (by rw [h]; decide), if_pos (by rw [g]; decide)]
  have HV3 : Hid (xs.any isBad = false → dayB d = true → aliveE xs d = (aliveL d xs, 0)) := fun h g => by unfold aliveE; rw [if_neg (by rw [h]; decide), if_neg (fun k => k g)]
  have HD2 : Hid (Ret 91 #[.int .i64 d] (.int .i64 (dayE d))) := c2
  clear h hx hn c2
  go_enter Tryz.func27, Tryz.ntmps27
  go_wp2_with fail
  go_loopw [6] (fun iv wr => ∃ k : Nat, k ≤ n ∧ iv = .int .i64 (k : Int) ∧ Hid (∀ (j : Nat) (x : Ins), j < k → xs[j]? = some x → chkE x = 0) ∧ Below w.heap.size w wr) (fun iv _ => n - (intOf iv).toNat)
  case atStart => exact ⟨0, Nat.zero_le _, rfl, fun j x hj => by omega, Below.refl _ _⟩
  case round =>
    obtain ⟨k, hk, rfl, HK, hb⟩ := hrel
    by_cases hlt : k < n
    · obtain ⟨x, hxk⟩ : ∃ x, xs[k]? = some x := ⟨_, List.getElem?_eq_getElem (by omega)⟩
      obtain ⟨b, o, rfl, hbs, hc⟩ := (HI.out.below hb) k x hxk
      have C1 := Lib.hid (jCheck x (HX.out x (List.mem_of_getElem? hxk)))
      have HXK := Lib.hid hxk
      clear hxk
      have p0 := hc.c0
      have p1 := hc.c1
      have p2 := hc.c2
      have p3 := hc.c3
      have p4 := hc.c4
      have p5 := hc.c5
      have p6 := hc.c6
      have p7 := hc.c7
      have p8 := hc.c8
      have p9 := hc.c9
      have p10 := hc.c10
      have p11 := hc.c11
      have p12 := hc.c12
      have p13 := hc.c13
      have p14 := hc.c14
      go_wp2_with fail
      ((with_reducible refine (C1.out.of hG hb).mono ?_); rintro e w2 ⟨rfl, hb2⟩)
      replace hb := bto hb hb2
      clear hb2 C1 hc p0 p1 p2 p3 p4 p5 p6 p7 p8 p9 p10 p11 p12 p13 p14
      by_cases g2 : chkE x = 0
      · have e1 : (chkE x == 0) = true := by rw [beq_iff_eq]; exact g2
        have e2 := bneq e1
        have HK2 : Hid (∀ (j : Nat) (y : Ins), j < k + 1 → xs[j]? = some y → chkE y = 0) := fun j y hj hy => by
          rcases Nat.lt_or_ge j k with h1 | h1
          · exact HK.out j y h1 hy
          · obtain rfl : j = k := by omega
            rw [HXK.out] at hy; injection hy with hy; rw [← hy]; exact g2
        clear g2 HK
        go_wp2
        go_roundw
        case rel => exact ⟨k + 1, by omega, by go_num, HK2, hb⟩
        case measure => simp [intOf]; omega
      · have e1 : (chkE x == 0) = false := by rw [beq_eq_false_iff_ne]; exact g2
        have e2 := bneq' e1
        have HV := Lib.hid (HV1.out (any_bad HXK.out g2))
        clear g2 HK
        go_wp2
        go_ret2
        unfold StrsEnd
        rw [HV.out]
        exact ⟨_, _, rfl, strAt_nil _ _, bto hb (below_alloc _ _)⟩
    · have hno : xs.any isBad = false := by
        rw [List.any_eq_false]
        intro x hx
        obtain ⟨j, hj, rfl⟩ := List.getElem_of_mem hx
        have := HK.out j _ (by omega) (List.getElem?_eq_getElem hj)
        unfold isBad; simpa using this
      by_cases gd : dayB d = true
      rotate_left
      · have HV := Lib.hid (HV2.out hno (not_true_b gd))
        rw [dayE_f gd] at HD2
        clear hno gd HK
        go_wp2_with fail
        ((with_reducible refine (HD2.out.of hG hb).mono ?_); rintro e w2 ⟨rfl, hb2⟩)
        go_wp2
        go_ret2
        unfold StrsEnd
        rw [HV.out]
        exact ⟨_, _, rfl, strAt_nil _ _, bto (bto hb hb2) (below_alloc _ _)⟩
      have HV := Lib.hid (HV3.out hno gd)
      rw [dayE_t gd] at HD2
      clear hno gd HK
      go_wp2_with fail
      ((with_reducible refine (HD2.out.of hG hb).mono ?_); rintro e w2 ⟨rfl, hb2⟩)
      have hb0 := bto (bto hb hb2) (below_alloc w2 (.cells #[] 9))
      have own0 := own_empty w2 w.heap.size (bto hb hb2).size
      clear hb2
      go_wp2_with fail
      go_loopw [7, 8] (fun v iv wz => ∃ (k : Nat) (B : Option Addr) (cp : Nat), k ≤ n ∧ iv = .int .i64 (k : Int) ∧ v = .slice B (aliveL d (xs.take k)).length cp ∧ wz.ownsRow w.heap.size 9 1 (.slice B (aliveL d (xs.take k)).length cp) (aliveL d (xs.take k)).length (Sv (aliveL d (xs.take k))) ∧ Below w.heap.size w wz) (fun _ iv _ => n - (intOf iv).toNat)
      case atStart => exact ⟨0, _, _, Nat.zero_le _, rfl, rfl, own0, hb0⟩
      case round =>
        obtain ⟨k, B, cp, hk, rfl, rfl, hown, hb⟩ := hrel
        by_cases hlt : k < n
        · obtain ⟨x, hxk⟩ : ∃ x, xs[k]? = some x := ⟨_, List.getElem?_eq_getElem (by omega)⟩
          obtain ⟨b, o, rfl, hbs, hc⟩ := (HI.out.below hb) k x hxk
          have hstep : aliveL d (xs.take (k + 1)) = aliveL d (xs.take k) ++ (if stOf x d = 2 then [x.id] else []) := by
            obtain ⟨hk', rfl⟩ := List.getElem?_eq_some_iff.1 hxk
            rw [List.take_succ_eq_append_getElem hk', aliveL_app]; rfl
          have hll := aliveL_len d (xs.take k)
          have hlk : (xs.take k).length ≤ k := List.length_take_le _ _
          have HS := Lib.hid hstep
          have HO := Lib.hid hown
          obtain ⟨L, hL⟩ : ∃ L, L = aliveL d (xs.take k) := ⟨_, rfl⟩
          rw [← hL] at HS HO hll ⊢
          have C3 := Lib.hid (jState0 x d)
          clear hstep hxk hown hL
          have p0 := hc.c0
          have p1 := hc.c1
          have p2 := hc.c2
          have p3 := hc.c3
          have p4 := hc.c4
          have p5 := hc.c5
          have p6 := hc.c6
          have p7 := hc.c7
          have p8 := hc.c8
          have p9 := hc.c9
          have p10 := hc.c10
          have p11 := hc.c11
          have p12 := hc.c12
          have p13 := hc.c13
          have p14 := hc.c14
          go_wp2_with fail
          ((with_reducible refine (C3.out.of hG hb).mono ?_); rintro e w4 ⟨rfl, hb4⟩)
          have hc4 := hc.below hbs hb4
          replace hb := bto hb hb4
          have hown4 := own_below HO.out hb4
          clear hb4 C3 hc HO p0 p1 p2 p3 p4 p5 p6 p7 p8 p9 p10 p11 p12 p13 p14
          by_cases hst : stOf x d = 2
          · have e1 : (stOf x d == 2) = true := by rw [beq_iff_eq]; exact hst
            have HS2 : Hid (aliveL d (xs.take (k + 1)) = L ++ [x.id]) := by show _ = _; rw [HS.out, if_pos hst]
            have own5 : (w4.alloc (.cells #[.string ⟨x.id.toArray⟩] 9)).ownsRow w.heap.size 9 1 (.slice B L.length cp) L.length (Sv L) := own_below hown4 (below_alloc _ _)
            have hw4 : w.heap.size ≤ w4.heap.size := hb.size
            have q0 := hc4.c0
            clear hst HS hown4 hc4
            go_wp2_with (at_builtin; refine wpList_append_own _ rfl _ _ 45 rfl w.heap.size 9 i0 (.string ⟨#[]⟩) 1 16 Tryz.underlying45 hi hz0 hz1 hz2 rfl (by decide) _ _ _ rfl own5 ⟨w4.heap.size, 0, none⟩ 1 1 [.string ⟨x.id.toArray⟩] rfl rfl ?c1 ?c2 ?c3 ?c4 ?c5 ?_)
            case c1 =>
              intro j u hu
              cases j with
              | zero => simp at hu; subst hu; rw [Lib.add_plain]; simp [go_sem]
              | succ j => simp at hu
            case c2 => intro u hu; simp at hu; subst hu; rfl
            case c3 => unfold maxLen; omega
            case c4 => omega
            case c5 => simp; omega
            intro v' w5 hown' hgrow _
            have hb5 : Below w.heap.size w w5 := (hb.alloc hw4 _).grown hgrow (by simp; omega) (own_block_ge own5)
            obtain ⟨B', c', rfl⟩ := own_form hown'
            have HO2 : Hid (w5.ownsRow w.heap.size 9 1 (.slice B' (L ++ [x.id]).length c') (L ++ [x.id]).length (Sv (L ++ [x.id]))) := by
              have := hown'
              show World.ownsRow _ _ _ _ _ _ _
              rw [List.length_append, List.length_singleton]
              simpa [Sv] using this
            clear hown' hgrow own5 q0 e1
            go_wp2
            go_roundw
            case rel => exact ⟨k + 1, B', c', by omega, by go_num, by rw [HS2.out]; simp, by rw [HS2.out]; exact HO2.out, hb5⟩
            case measure => simp [intOf]; omega
          · have e1 : (stOf x d == 2) = false := by rw [beq_eq_false_iff_ne]; exact hst
            have HS2 : Hid (aliveL d (xs.take (k + 1)) = L) := by show _ = _; rw [HS.out, if_neg hst, List.append_nil]
            have HO2 := Lib.hid hown4
            clear hst HS hown4 hc4
            go_wp2
            go_roundw
            case rel => exact ⟨k + 1, B, cp, by omega, by go_num, by rw [HS2.out], by rw [HS2.out]; exact HO2.out, hb⟩
            case measure => simp [intOf]; omega
        · have htk : xs.take k = xs := List.take_of_length_le (by omega)
          rw [htk] at hown ⊢
          have HSt := Lib.hid (own_strAt hown rfl)
          clear hown htk
          go_wp2
          go_ret2
          unfold StrsEnd
          rw [HV.out]
          exact ⟨B, cp, rfl, HSt.out, hb⟩
end Go.Proofs.YtmmhimgkpfcokaaGreatDoor
