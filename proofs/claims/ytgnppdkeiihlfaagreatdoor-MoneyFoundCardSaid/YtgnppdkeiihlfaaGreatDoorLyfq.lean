/- The law MoneyFound. -/
import Derived.Test.YtgnppdkeiihlfaaGreatDoorM6
namespace Go.Proofs.YtgnppdkeiihlfaaGreatDoor
open Go.RowKit Num
theorem curAt_row {w : World} {b o : Nat} {xs : List Cur} (h : CurAt w (some ⟨b, o, none⟩) xs) {k : Nat} {x : Cur} (hx : xs[k]? = some x) : b < w.heap.size ∧ w.cell? ⟨b, o + k * 2, none⟩ = some (.string ⟨x.code.toArray⟩) ∧ w.cell? ⟨b, o + k * 2 + 1, none⟩ = some (.int .i64 x.places) := by
  obtain ⟨b', o', e, h1, h2, h3⟩ := h k x hx
  injection e with e
  injection e with e1 e2
  subst e1 e2
  exact ⟨h1, h2, h3⟩
set_option maxHeartbeats 8000000 in
set_option maxRecDepth 100000 in
theorem found5_law (A : Option Addr) (ts : List Cur) (n c : Nat) (d : Int) (hd0 : 0 ≤ d) (hd1 : d ≤ 255) (w : World) (hG : Glob w)
    (hn : ts.length = n) (hc : n ≤ c) (hm : n ≤ 9223372036854775807) (hI : CurAt w A ts) :
    Calls Tryz.prog 12 #[.slice A n c, .int .u8 d] w fun e w' => e = .returned (.bool true) ∧ Below w.heap.size w w' := by
  have HAw := Lib.hid wAwake5
  have hb := Below.refl w.heap.size w
  have CG := Lib.hid (rGreatT A ts n c w hn hc hm hI)
  have HI := Lib.hid hI
  clear hn hm hI
  go_enter Tryz.func12, Tryz.ntmps12
  go_wp2_with fail
  refine CG.out.mono ?_
  rintro e w2 ⟨g, rfl, hg, hb2⟩
  have HF := Lib.hid hg
  replace hb := bto hb hb2
  clear hg hb2 CG
  cases g with
  | true =>
    clear HF
    go_wp2_with fail
    ((with_reducible refine (HAw.out.of hG hb).mono ?_); rintro e wz ⟨rfl, hbz⟩)
    replace hb := bto hb hbz
    clear hbz
    go_wp2
    go_ret
    exact ⟨rfl, hb⟩
  | false =>
    have hX := HF.out rfl
    have hT : TL w A ts n c := ⟨hX.len, hX.cap, hX.sm, hX.str, HI.out⟩
    have HT := Lib.hid hT
    clear hX hT HF
    have K3 := Lib.hid (mTableB hG HT.out)
    by_cases g0 : tabE ts = 0
    rotate_left
    · have e3 : (tabE ts != 0) = true := bneq' (intbne g0)
      generalize tabE ts = E at *
      clear g0 HT HI
      go_wp2_with fail
      ((with_reducible refine (K3.out.of hG hb).mono ?_); rintro e w3 ⟨rfl, hb3⟩)
      replace hb := bto hb hb3
      clear hb3
      go_wp2_with fail
      ((with_reducible refine (HAw.out.of hG hb).mono ?_); rintro e wz ⟨rfl, hbz⟩)
      replace hb := bto hb hbz
      clear hbz
      go_wp2
      go_ret
      exact ⟨rfl, hb⟩
    have HG0 := Lib.hid g0
    rw [g0] at K3
    clear g0
    go_wp2_with fail
    ((with_reducible refine (K3.out.of hG hb).mono ?_); rintro e w3 ⟨rfl, hb3⟩)
    replace hb := bto hb hb3
    clear hb3
    by_cases h0 : n = 0
    · have e2 : ((n : Int) == 0) = true := intbeq (by omega)
      have h0' : (n : Int) = 0 := by omega
      clear HT HI HG0
      go_wp2_with fail
      ((with_reducible refine (HAw.out.of hG hb).mono ?_); rintro e wz ⟨rfl, hbz⟩)
      replace hb := bto hb hbz
      clear hbz
      go_wp2
      go_ret
      exact ⟨rfl, hb⟩
    have e2 : ((n : Int) == 0) = false := intbne (by omega)
    have hn16 : n ≤ 16 := by have := ((tabE_iff ts).1 HG0.out).1; rw [HT.out.len] at this; exact this
    clear K3
    go_wp2_with fail
    go_loopw [30] (fun iv wr => ∃ k : Nat, k ≤ n ∧ iv = .int .i64 (k : Int) ∧ Below w.heap.size w wr) (fun iv _ => n - (intOf iv).toNat)
    case atStart => exact ⟨0, Nat.zero_le _, rfl, hb⟩
    case round =>
      clear hb
      obtain ⟨k, hk, rfl, hb⟩ := hrel
      by_cases hlk : k < n
      · obtain ⟨x, hx⟩ : ∃ x, ts[k]? = some x := ⟨_, List.getElem?_eq_getElem (by rw [HT.out.len]; exact hlk)⟩
        obtain ⟨b, o, rfl, hbs, p0, p1⟩ := (HI.out.below hb) k x hx
        have K1 := mFindB HT.out x.code
        rw [tab_find HG0.out (List.mem_of_getElem? hx)] at K1
        unfold curV at K1
        have K1 := Lib.hid K1
        have hE := fun (w : World) => eqC1 x x w
        simp only [sameC_self] at hE
        have hEG := guardC
        have hbA := below_alloc wr (.cells #[.string ⟨x.code.toArray⟩, .int .i64 x.places] 64)
        have x6 := FBox.new wr (.string ⟨x.code.toArray⟩) (.int .i64 x.places) 64
        replace hb := bto hb hbA
        clear hbA hx
        have q60 := x6.c0
        have q61 := x6.c1
        go_wp2_with fail
        ((with_reducible refine (K1.out.of hG hb).mono ?_); rintro e wa ⟨rfl, hba⟩)
        have hbA := below_alloc wa (.cells #[.string ⟨x.code.toArray⟩, .int .i64 x.places] 64)
        have x7 := FBox.new wa (.string ⟨x.code.toArray⟩) (.int .i64 x.places) 64
        replace hba := bto hba hbA
        replace x6 := x6.below hba
        replace hb := bto hb hba
        clear hba hbA K1 q60 q61 p0 p1
        have q60 := x6.c0
        have q61 := x6.c1
        have q70 := x7.c0
        have q71 := x7.c1
        go_wp2
        go_roundw
        case rel => exact ⟨k + 1, by omega, by go_num, hb⟩
        case measure => simp [intOf]; omega
      · have CC := Lib.hid (fun (w' : World) (hb : Below w.heap.size w w') => cloneC A ts n c w' HT.out.len (by omega) (by omega) (HI.out.below hb))
        obtain ⟨i, hi, hin⟩ : ∃ i : Nat, d % (n : Int) = (i : Int) ∧ i < n := ⟨(d % (n : Int)).toNat, by have := Int.emod_nonneg d (show (n : Int) ≠ 0 by omega); omega, by have := Int.emod_nonneg d (show (n : Int) ≠ 0 by omega); have := Int.emod_lt_of_pos d (show (0 : Int) < n by omega); omega⟩
        have HKd := Lib.hid hi
        clear hi
        go_wp2_with fail
        simp only [HKd.out]
        refine (CC.out _ hb).mono ?_
        rintro e w3 ⟨B, cp, rfl, hown, hb3⟩
        have hsz0 := hb.size
        replace hb := bto hb hb3
        have hown2 : w3.ownsRow wr.heap.size 64 2 (.slice B n cp) n (rowsC ts) := hown
        obtain ⟨g, cur, rfl, hg, hH, hcap, hsz, htk⟩ : ∃ g cur, B = some ⟨g, 0, none⟩ ∧ wr.heap.size ≤ g ∧ w3.heap[g]? = some (.cells cur 64 (0, 0)) ∧ n ≤ cp ∧ n * 2 ≤ cur.size ∧ cur.toList.take (n * 2) = rowsC ts := by
          rcases hown2.2 with ⟨hv, h1⟩ | ⟨g, cap, cur, hv, hb, hh, hcap, _, hsz, htk⟩
          · omega
          · injection hv with h1 _ h3
            subst h1 h3
            exact ⟨g, cur, rfl, hb, hh, hcap, by rw [hsz]; exact Nat.mul_le_mul_right _ hcap, htk⟩
        have CD := Lib.hid (delC g n cp i cur ts w3 HT.out.len hin hcap hH hsz htk)
        have hwg : w.heap.size ≤ g := Nat.le_trans hsz0 hg
        clear hown hown2 hH hsz htk hb3
        go_wp2_with fail
        refine CD.out.mono ?_
        rintro e w4 ⟨rfl, HD1, hb4⟩
        have HDel := Lib.hid HD1
        replace hb := hb.trans (hb4.mono hwg)
        clear HD1 CD
        obtain ⟨x, hxk⟩ : ∃ x, ts[i]? = some x := ⟨_, List.getElem?_eq_getElem (by rw [HT.out.len]; exact hin)⟩
        have HX := Lib.hid hxk
        obtain ⟨b, o, rfl, hbs, p0, p1⟩ := (HI.out.below hb) i x hxk
        have LE : (ts.eraseIdx i).length = n - 1 := by rw [List.length_eraseIdx_of_lt (by rw [HT.out.len]; exact hin), HT.out.len]
        have C6 := Lib.hid (mFind (some ⟨g, 0, none⟩) (ts.eraseIdx i) (n - 1) cp x.code w4 LE (by omega) HDel.out)
        rw [tab_gone HG0.out hxk] at C6
        unfold curV at C6
        have hki : (i : Int) < (n : Int) := by omega
        clear hxk
        go_wp2_with fail
        ((with_reducible refine C6.out.mono ?_); rintro e w5 ⟨rfl, hb5⟩)
        have hbA := below_alloc w5 (.cells #[.string ⟨#[]⟩, .int .i64 0] 64)
        replace hb5 := bto hb5 hbA
        replace HDel := Lib.hid (HDel.out.below hb5)
        replace hb := bto hb hb5
        clear hb5 hbA C6 p0 p1
        go_wp2_with fail
        obtain ⟨w6, hw6⟩ : ∃ w6, w6 = w5.alloc (.cells #[.string ⟨#[]⟩, .int .i64 0] 64) := ⟨_, rfl⟩
        (try rw [← hw6])
        rw [← hw6] at HDel hb
        clear hw6
        obtain ⟨i0, hi, hz0, hz1, hz2⟩ := info_parts info_cur
        obtain ⟨hbs, p0, p1⟩ := curAt_row (HI.out.below hb) HX.out
        refine wp_region_fresh2D (by simp) (by simp) (by kernel_rfl) (by kernel_rfl) (by kernel_rfl) (by kernel_rfl) (by kernel_rfl) ?_
        simp only [List.dropLast_cons_cons, List.dropLast_singleton, List.getLast_cons_cons, List.getLast_singleton]
        refine fresh_val _ (fun _ => rfl) (fun ρ wz hw => by go_simp; first | done | with_reducible rfl) ?_
        simp only [Act.put, List.setIfInBounds_toArray, List.set_cons_zero, List.set_cons_succ, Nat.reduceAdd]
        refine fresh_new _ _ (fun wz u => ∃ B cp, u = .slice B n cp ∧ wz.ownsRow w6.heap.size 64 2 (.slice B n cp) n (rowsC ts)) (fun w1 w2 u ⟨B, cp, e, h1⟩ hb => ⟨B, cp, e, own_belowC h1 hb⟩) (fun _ => rfl) (fun ρ wz hw => by go_simp; first | done | with_reducible rfl) (fun wz hw => (CC.out wz (bto hb hw)).mono fun e w' ⟨B, cp, he, ho, hbb⟩ => ⟨_, he, hbb, B, cp, rfl, own_baseC ho hw.size⟩) ?_
        simp only [Act.put, List.setIfInBounds_toArray, List.set_cons_zero, List.set_cons_succ, Nat.reduceAdd]
        refine fresh_val _ (fun _ => rfl) (fun ρ wz hw => by go_simp; first | done | with_reducible rfl) ?_
        simp only [Act.put, List.setIfInBounds_toArray, List.set_cons_zero, List.set_cons_succ, Nat.reduceAdd]
        refine fresh_val _ (fun _ => rfl) (fun ρ wz hw => by go_simp; first | done | with_reducible rfl) ?_
        simp only [Act.put, List.setIfInBounds_toArray, List.set_cons_zero, List.set_cons_succ, Nat.reduceAdd]
        refine fresh_val _ (fun _ => rfl) (fun ρ wz hw => by go_simp; first | done | with_reducible rfl) ?_
        simp only [Act.put, List.setIfInBounds_toArray, List.set_cons_zero, List.set_cons_succ, Nat.reduceAdd]
        refine fresh_val _ (fun _ => rfl) (fun ρ wz hw => by have q0 := (hw.cell (p := ⟨b, o + i * 2, none⟩) hbs).trans p0; have q1 := (hw.cell (p := ⟨b, o + i * 2 + 1, none⟩) hbs).trans p1; go_simp; first | done | with_reducible rfl) ?_
        simp only [Act.put, List.setIfInBounds_toArray, List.set_cons_zero, List.set_cons_succ, Nat.reduceAdd]
        refine fresh_box (fun b => .slice (some ⟨b, 0, none⟩) 1 1) _ (fun _ => rfl) (fun ρ wz hw => by go_simp; first | done | with_reducible rfl) w6 (fun wz hw => hw.size) ?_
        simp only [Act.put, List.setIfInBounds_toArray, List.set_cons_zero, List.set_cons_succ, Nat.reduceAdd]
        intro ρ w7 hF
        obtain ⟨⟨B5, cp5, e5, HO5⟩, -⟩ := hF.box 1 _ rfl
        obtain ⟨⟨b6, e6, hb6, hh6⟩, -⟩ := hF.box 6 _ rfl
        have hbF := hF.below
        simp only [e5, e6]
        clear hF e5 e6
        refine wpList_append_own _ rfl _ _ 61 rfl w6.heap.size 64 i0 _ 2 24 Tryz.underlying61 hi hz0 hz1 hz2 rfl (by decide) _ _ _ rfl HO5 ⟨b6, 0, none⟩ 1 1 (ccV x).toList rfl ?c1 ?c2 ?c3 ?c4 ?c5 ?c6 ?_
        case c1 => rfl
        case c2 =>
          intro j u hu
          rw [Lib.add_plain, Nat.zero_add]
          have h1 : w7.cell? ⟨b6, j, none⟩ = _ := blk_cell hh6 j
          rw [h1]
          rw [← Array.getElem?_toList]; exact hu
        case c3 => exact fun u hu => rowsC_one [x] u (by rw [rowsC_cons]; simpa [ccV, rowsC] using hu)
        case c4 => unfold maxLen; omega
        case c5 => omega
        case c6 => exact hbF.size
        intro v' w8 hown hgrow _
        have hbN := Below.grown hbF hgrow hbF.size (own_blkC HO5)
        replace HDel := HDel.out.below hbN
        replace hb := bto hb hbN
        have hrow : rowsC ts ++ (ccV x).toList = rowsC (ts ++ [x]) := by
          unfold rowsC; rw [List.flatMap_append]; rfl
        obtain ⟨C, cq, rfl, hcq⟩ := own_openC hown (by omega)
        have HAp := own_curAt (xs := ts ++ [x]) (by rw [← hrow]; exact hown) (by rw [List.length_append, HT.out.len]; rfl)
        clear hbN hown hgrow hrow HO5 hh6 hb6 hbF hbs p0 p1
        have hsx : x.code.length ≤ 1000 := HT.out.str x (List.mem_of_getElem? HX.out)
        have hSh1 : ShortC (ts ++ [x]) := fun y hy => by
          rcases List.mem_append.1 hy with hy | hy
          · exact HT.out.short y hy
          · rw [List.mem_singleton.1 hy]; omega
        have hSh2 : ShortC (ts.eraseIdx i) := fun y hy => HT.out.short y (List.mem_of_mem_eraseIdx hy)
        have C9 := Lib.hid (mTable C (ts ++ [x]) (n + 1) cq w8 (hG.below hb) (by rw [List.length_append, HT.out.len]; rfl) hcq hSh1 HAp)
        rw [tab_twice HG0.out (List.mem_of_getElem? HX.out), HT.out.len] at C9
        clear HAp hSh1
        have k0 : ((4 : Int) == 5) = false := rfl
        by_cases g16 : n = 16
        · rw [if_pos g16] at C9
          have t16 : ((n : Int) == 16) = true := intbeq (by omega)
          clear g16
          go_wp2_with fail
          ((with_reducible refine C9.out.mono ?_); rintro e w9 ⟨rfl, hb9⟩)
          replace HDel := HDel.below hb9
          replace hb := bto hb hb9
          have CA := Lib.hid (mTable (some ⟨g, 0, none⟩) (ts.eraseIdx i) (n - 1) cp w9 (hG.below hb) LE (by omega) hSh2 HDel)
          rw [tab_less HG0.out i] at CA
          clear hb9 C9 HDel
          go_wp2_with fail
          ((with_reducible refine CA.out.mono ?_); rintro e w10 ⟨rfl, hb10⟩)
          replace hb := bto hb hb10
          clear hb10 CA
          go_wp2_with fail
          ((with_reducible refine (HAw.out.of hG hb).mono ?_); rintro e wz ⟨rfl, hbz⟩)
          replace hb := bto hb hbz
          clear hbz
          go_wp2
          go_ret
          exact ⟨rfl, hb⟩
        · rw [if_neg g16] at C9
          clear g16
          go_wp2_with fail
          ((with_reducible refine C9.out.mono ?_); rintro e w9 ⟨rfl, hb9⟩)
          replace HDel := HDel.below hb9
          replace hb := bto hb hb9
          have CA := Lib.hid (mTable (some ⟨g, 0, none⟩) (ts.eraseIdx i) (n - 1) cp w9 (hG.below hb) LE (by omega) hSh2 HDel)
          rw [tab_less HG0.out i] at CA
          clear hb9 C9 HDel
          go_wp2_with fail
          ((with_reducible refine CA.out.mono ?_); rintro e w10 ⟨rfl, hb10⟩)
          replace hb := bto hb hb10
          clear hb10 CA
          go_wp2_with fail
          ((with_reducible refine (HAw.out.of hG hb).mono ?_); rintro e wz ⟨rfl, hbz⟩)
          replace hb := bto hb hbz
          clear hbz
          go_wp2
          go_ret
          exact ⟨rfl, hb⟩
end Go.Proofs.YtgnppdkeiihlfaaGreatDoor
