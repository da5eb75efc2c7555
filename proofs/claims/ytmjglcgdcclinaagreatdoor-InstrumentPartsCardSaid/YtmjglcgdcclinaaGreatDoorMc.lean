/- trancheref05.CheckTable; trancheref10.has. -/
import Derived.Test.YtmjglcgdcclinaaGreatDoorMb
namespace Go.Proofs.YtmjglcgdcclinaaGreatDoor
open Go.RowKit Num
theorem findT_at {ts : List Cur} {code : List UInt8} {k j : Nat} {u : Cur} (hj : j < k) (h : ts[j]? = some u) : findT ((ts.take k).drop j) code = if u.code = code then some u else findT ((ts.take k).drop (j + 1)) code :=
  findT_drop (by rw [List.getElem?_take, if_pos hj]; exact h)
set_option maxHeartbeats 4000000 in
set_option maxRecDepth 100000 in
theorem jTable (A : Option Addr) (ts : List Cur) (n c : Nat) (w : World) (hG : Glob w) (hn : ts.length = n) (hs : ShortC ts) (h : CurAt w A ts) :
    Calls Tryz.prog 21 #[.slice A n c] w fun e w' => e = .returned (.int .i64 (tabE ts)) ∧ Below w.heap.size w w' := by
  by_cases h16 : 16 < n
  · have e1 : decide (16 < n) = true := decide_eq_true h16
    have HV : Hid (tabE ts = 4) := by show _ = _; unfold tabE; rw [if_pos (by omega)]
    go_enter Tryz.func21, Tryz.ntmps21
    go_wp2
    go_ret
    exact ⟨reti HV.out.symm, Below.refl _ _⟩
  have e1 : decide (16 < n) = false := decide_eq_false h16
  have HV : Hid (tabE ts = tabL [] ts) := by show _ = _; unfold tabE; rw [if_neg (by omega)]
  have HI := Lib.hid h
  have HS := Lib.hid hs
  have hn1 : ts.length ≤ n := by omega
  have hn2 : n ≤ ts.length := by omega
  clear h hn hs
  go_enter Tryz.func21, Tryz.ntmps21
  go_wp2_with fail
  clear e1
  go_loopw [3, 4] (fun iv _ wr => ∃ k : Nat, k ≤ n ∧ iv = .int .i64 (k : Int) ∧ Hid (tabL [] ts = tabL (ts.take k) (ts.drop k)) ∧ Below w.heap.size w wr) (fun iv _ _ => n - (intOf iv).toNat)
  case atStart => exact ⟨0, Nat.zero_le _, rfl, rfl, Below.refl _ _⟩
  case round =>
    obtain ⟨k, hk, rfl, HK, hb⟩ := hrel
    by_cases hlk : k < n
    · obtain ⟨t, ht⟩ : ∃ t, ts[k]? = some t := ⟨_, List.getElem?_eq_getElem (by omega)⟩
      obtain ⟨b, o, rfl, hbs, p0, p1⟩ := (HI.out.below hb) k t ht
      have HD := Lib.hid (tabL_step ht)
      have hts := HS.out t (List.mem_of_getElem? ht)
      have C1 := Lib.hid (jCode5L (l := t.code) (by omega))
      clear ht
      by_cases g1 : codeB t.code = true
      rotate_left
      · have e1 := not_true_b g1
        have HQ : Hid (tabL [] ts = 23) := by show _ = _; rw [HK.out, HD.out, if_pos g1]
        clear g1 HK HD
        go_wp2_with fail
        ((with_reducible refine (C1.out.of hG hb).mono ?_); rintro e w2 ⟨rfl, hb2⟩)
        go_wp2
        go_ret
        exact ⟨reti (HV.out.trans HQ.out).symm, bto hb hb2⟩
      have e1 := g1
      go_wp2_with fail
      ((with_reducible refine (C1.out.of hG hb).mono ?_); rintro e w2 ⟨rfl, hb2⟩)
      replace p0 := (hb2.cell (p := ⟨b, o + k * 2, none⟩) hbs).trans p0
      replace p1 := (hb2.cell (p := ⟨b, o + k * 2 + 1, none⟩) hbs).trans p1
      replace hbs := Nat.lt_of_lt_of_le hbs hb2.size
      replace hb := bto hb hb2
      clear C1 hb2
      by_cases g2 : t.places < 0
      · have e2 : decide (t.places < 0) = true := decide_eq_true g2
        have HQ : Hid (tabL [] ts = 2) := by show _ = _; rw [HK.out, HD.out, if_neg (fun h => h g1), if_pos (.inl g2)]
        clear g1 HK HD
        go_wp2
        go_ret
        exact ⟨reti (HV.out.trans HQ.out).symm, hb⟩
      have e2 : decide (t.places < 0) = false := decide_eq_false g2
      by_cases g3 : 12 < t.places
      · have e3 : decide (12 < t.places) = true := decide_eq_true g3
        have HQ : Hid (tabL [] ts = 2) := by show _ = _; rw [HK.out, HD.out, if_neg (fun h => h g1), if_pos (.inr g3)]
        clear g1 HK HD
        go_wp2
        go_ret
        exact ⟨reti (HV.out.trans HQ.out).symm, hb⟩
      have e3 : decide (12 < t.places) = false := decide_eq_false g3
      have HQ : Hid (tabL [] ts = if (findT (ts.take k) t.code).isSome = true then 5 else tabL (ts.take (k + 1)) (ts.drop (k + 1))) := by show _ = _; rw [HK.out, HD.out, if_neg (fun h => h g1), if_neg (fun h => h.elim g2 g3)]
      clear g1 HK HD
      go_wp2_with fail
      clear e1 e2 e3 p1
      have P0 := Lib.hid p0
      have HB := Lib.hid hb
      have HBS := Lib.hid hbs
      clear p0 hb hbs
      obtain ⟨wo, hwo⟩ : ∃ wo : World, wo = w2 := ⟨_, rfl⟩
      go_loopw [4] (fun jv wi => ∃ j : Nat, j ≤ k ∧ jv = .int .i64 (j : Int) ∧ Hid (findT (ts.take k) t.code = findT ((ts.take k).drop j) t.code) ∧ Below w2.heap.size w2 wi) (fun jv _ => k - (intOf jv).toNat)
      case atStart => exact ⟨0, Nat.zero_le _, rfl, rfl, Below.refl _ _⟩
      case round =>
        obtain ⟨j, hj, rfl, HJ, hbi⟩ := hrel
        have hb := bto HB.out hbi
        by_cases hjk : j < k
        · obtain ⟨u, hu⟩ : ∃ u, ts[j]? = some u := ⟨_, List.getElem?_eq_getElem (by omega)⟩
          obtain ⟨b', o', hA, hbs', pj, -⟩ := (HI.out.below hb) j u hu
          injection hA with hA
          injection hA with hA1 hA2
          subst hA1 hA2
          have HF := Lib.hid (findT_at (code := t.code) hjk hu)
          have p0 := (hbi.cell (p := ⟨b, o + k * 2, none⟩) HBS.out).trans P0.out
          have hbs := hbs'
          clear hu hbs'
          have hjn : j < n := by omega
          by_cases he : u.code = t.code
          · have e1 : (u.code == t.code) = true := by rw [beq_iff_eq]; exact he
            have HR : Hid (tabL [] ts = 5) := by show _ = _; rw [HQ.out, HJ.out, HF.out, if_pos he]; rfl
            clear he HJ HF HQ
            go_wp2_with fail
            refine wp_region_kept (by kernel_rfl) (by kernel_rfl) ?_
            refine kept_val _ (fun _ => rfl) (fun ρ w hw => by go_simp; first | done | with_reducible rfl) ?_
            simp only [Act.put, List.setIfInBounds_toArray, List.set_cons_zero, List.set_cons_succ, Nat.reduceAdd]
            refine kept_val _ (fun _ => rfl) (fun ρ w hw => by go_simp; first | done | with_reducible rfl) ?_
            simp only [Act.put, List.setIfInBounds_toArray, List.set_cons_zero, List.set_cons_succ, Nat.reduceAdd]
            refine kept_val _ (fun _ => rfl) (fun ρ w hw => by go_simp; first | done | with_reducible rfl) ?_
            simp only [Act.put, List.setIfInBounds_toArray, List.set_cons_zero, List.set_cons_succ, Nat.reduceAdd]
            refine kept_val _ (fun _ => rfl) (fun ρ w hw => by go_simp; first | done | with_reducible rfl) ?_
            simp only [Act.put, List.setIfInBounds_toArray, List.set_cons_zero, List.set_cons_succ, Nat.reduceAdd]
            refine kept_val _ (fun _ => rfl) (fun ρ w hw => by have q0 := (hw.cell (p := ⟨b, o + j * 2, none⟩) hbs).trans pj; go_simp; first | done | with_reducible rfl) ?_
            simp only [Act.put, List.setIfInBounds_toArray, List.set_cons_zero, List.set_cons_succ, Nat.reduceAdd]
            refine kept_val _ (fun _ => rfl) (fun ρ w hw => by go_simp; first | done | with_reducible rfl) ?_
            simp only [Act.put, List.setIfInBounds_toArray, List.set_cons_zero, List.set_cons_succ, Nat.reduceAdd]
            refine kept_val _ (fun _ => rfl) (fun ρ w hw => by go_simp; first | done | with_reducible rfl) ?_
            simp only [Act.put, List.setIfInBounds_toArray, List.set_cons_zero, List.set_cons_succ, Nat.reduceAdd]
            refine kept_val _ (fun _ => rfl) (fun ρ w hw => by go_simp; first | done | with_reducible rfl) ?_
            simp only [Act.put, List.setIfInBounds_toArray, List.set_cons_zero, List.set_cons_succ, Nat.reduceAdd]
            refine kept_val _ (fun _ => rfl) (fun ρ w hw => by go_simp; first | done | with_reducible rfl) ?_
            simp only [Act.put, List.setIfInBounds_toArray, List.set_cons_zero, List.set_cons_succ, Nat.reduceAdd]
            refine kept_val _ (fun _ => rfl) (fun ρ w hw => by have q0 := (hw.cell (p := ⟨b, o + k * 2, none⟩) hbs).trans p0; go_simp; first | done | with_reducible rfl) ?_
            simp only [Act.put, List.setIfInBounds_toArray, List.set_cons_zero, List.set_cons_succ, Nat.reduceAdd]
            refine kept_val _ (fun _ => rfl) (fun ρ w hw => by go_simp; first | done | with_reducible rfl) ?_
            simp only [Act.put, List.setIfInBounds_toArray, List.set_cons_zero, List.set_cons_succ, Nat.reduceAdd]
            refine kept_end (fun ρ w6 hF => ?_)
            replace hb := bto hb hF.below
            clear hF
            go_wp2
            go_ret
            exact ⟨reti (HV.out.trans HR.out).symm, hb⟩
          · have e1 : (u.code == t.code) = false := by rw [beq_eq_false_iff_ne]; exact he
            have HJ2 : Hid (findT (ts.take k) t.code = findT ((ts.take k).drop (j + 1)) t.code) := by show _ = _; rw [HJ.out, HF.out, if_neg he]
            clear he HJ HF
            have hb := hbi
            go_wp2_with fail
            refine wp_region_kept (by kernel_rfl) (by kernel_rfl) ?_
            refine kept_val _ (fun _ => rfl) (fun ρ w hw => by go_simp; first | done | with_reducible rfl) ?_
            simp only [Act.put, List.setIfInBounds_toArray, List.set_cons_zero, List.set_cons_succ, Nat.reduceAdd]
            refine kept_val _ (fun _ => rfl) (fun ρ w hw => by go_simp; first | done | with_reducible rfl) ?_
            simp only [Act.put, List.setIfInBounds_toArray, List.set_cons_zero, List.set_cons_succ, Nat.reduceAdd]
            refine kept_val _ (fun _ => rfl) (fun ρ w hw => by go_simp; first | done | with_reducible rfl) ?_
            simp only [Act.put, List.setIfInBounds_toArray, List.set_cons_zero, List.set_cons_succ, Nat.reduceAdd]
            refine kept_val _ (fun _ => rfl) (fun ρ w hw => by go_simp; first | done | with_reducible rfl) ?_
            simp only [Act.put, List.setIfInBounds_toArray, List.set_cons_zero, List.set_cons_succ, Nat.reduceAdd]
            refine kept_val _ (fun _ => rfl) (fun ρ w hw => by have q0 := (hw.cell (p := ⟨b, o + j * 2, none⟩) hbs).trans pj; go_simp; first | done | with_reducible rfl) ?_
            simp only [Act.put, List.setIfInBounds_toArray, List.set_cons_zero, List.set_cons_succ, Nat.reduceAdd]
            refine kept_val _ (fun _ => rfl) (fun ρ w hw => by go_simp; first | done | with_reducible rfl) ?_
            simp only [Act.put, List.setIfInBounds_toArray, List.set_cons_zero, List.set_cons_succ, Nat.reduceAdd]
            refine kept_val _ (fun _ => rfl) (fun ρ w hw => by go_simp; first | done | with_reducible rfl) ?_
            simp only [Act.put, List.setIfInBounds_toArray, List.set_cons_zero, List.set_cons_succ, Nat.reduceAdd]
            refine kept_val _ (fun _ => rfl) (fun ρ w hw => by go_simp; first | done | with_reducible rfl) ?_
            simp only [Act.put, List.setIfInBounds_toArray, List.set_cons_zero, List.set_cons_succ, Nat.reduceAdd]
            refine kept_val _ (fun _ => rfl) (fun ρ w hw => by go_simp; first | done | with_reducible rfl) ?_
            simp only [Act.put, List.setIfInBounds_toArray, List.set_cons_zero, List.set_cons_succ, Nat.reduceAdd]
            refine kept_val _ (fun _ => rfl) (fun ρ w hw => by have q0 := (hw.cell (p := ⟨b, o + k * 2, none⟩) hbs).trans p0; go_simp; first | done | with_reducible rfl) ?_
            simp only [Act.put, List.setIfInBounds_toArray, List.set_cons_zero, List.set_cons_succ, Nat.reduceAdd]
            refine kept_val _ (fun _ => rfl) (fun ρ w hw => by go_simp; first | done | with_reducible rfl) ?_
            simp only [Act.put, List.setIfInBounds_toArray, List.set_cons_zero, List.set_cons_succ, Nat.reduceAdd]
            refine kept_end (fun ρ w6 hF => ?_)
            replace hb := bto hb hF.below
            clear hF
            go_wp2
            go_roundw
            case rel => exact ⟨j + 1, by omega, by go_num, HJ2, hb⟩
            case measure => simp [intOf]; omega
        · have HR : Hid (tabL [] ts = tabL (ts.take (k + 1)) (ts.drop (k + 1))) := by
            show _ = _
            rw [HQ.out, HJ.out, List.drop_of_length_le (by rw [List.length_take]; omega)]; rfl
          clear HJ HQ
          go_wp2
          go_roundw
          case rel => exact ⟨k + 1, by omega, by go_num, HR, hb⟩
          case measure => simp [intOf]; omega
    · have HQ : Hid (tabL [] ts = 0) := by show _ = _; rw [HK.out, List.drop_of_length_le (by omega)]; rfl
      go_wp2
      go_ret
      exact ⟨reti (HV.out.trans HQ.out).symm, hb⟩
end Go.Proofs.YtmjglcgdcclinaaGreatDoor
