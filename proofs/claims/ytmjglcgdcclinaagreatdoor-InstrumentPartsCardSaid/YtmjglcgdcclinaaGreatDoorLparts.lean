/- InstrumentParts. -/
import Derived.Test.YtmjglcgdcclinaaGreatDoorIv
import Derived.Test.YtmjglcgdcclinaaGreatDoorIw
import Derived.Test.YtmjglcgdcclinaaGreatDoorBf
import Derived.Test.YtmjglcgdcclinaaGreatDoorIx
import Derived.Test.YtmjglcgdcclinaaGreatDoorSdi
import Derived.Test.YtmjglcgdcclinaaGreatDoorMc
import Derived.Test.YtmjglcgdcclinaaGreatDoorIj
import Derived.Test.YtmjglcgdcclinaaGreatDoorIi
namespace Go.Proofs.YtmjglcgdcclinaaGreatDoor
open Go.RowKit Num
theorem own_belowI {w w' : World} {B k sz : Nat} {ty : TypeId} {v : Value} {cs : List Value} (h : w.ownsRow B ty sz v k cs) (hb : Below w.heap.size w w') : w'.ownsRow B ty sz v k cs := by
  refine ⟨h.1, ?_⟩
  rcases h.2 with h2 | ⟨g, cap, cur, e, hB, hg, r⟩
  · exact .inl h2
  · exact .inr ⟨g, cap, cur, e, hB, (hb.block g (Array.getElem?_eq_some_iff.1 hg).1).trans hg, r⟩
theorem own_baseI {w : World} {B B' k sz : Nat} {ty : TypeId} {v : Value} {cs : List Value} (h : w.ownsRow B ty sz v k cs) (hb : B' ≤ B) : w.ownsRow B' ty sz v k cs := by
  refine ⟨h.1, ?_⟩
  rcases h.2 with h2 | ⟨g, cap, cur, e, hB, r⟩
  · exact .inl h2
  · exact .inr ⟨g, cap, cur, e, Nat.le_trans hb hB, r⟩
theorem own_blkI {w : World} {base n sz : Nat} {ty : TypeId} {v : Value} {cs : List Value} (h : w.ownsRow base ty sz v n cs) : ∀ j, v.ownBlock = some j → base ≤ j := fun j hj => by
  rcases h.2 with ⟨e0, -⟩ | ⟨g, cap, cur, e0, hB, -⟩
  · rw [e0] at hj; cases hj
  · rw [e0] at hj; simp [Value.ownBlock] at hj; omega
theorem own_openI {w : World} {base n sz : Nat} {ty : TypeId} {v : Value} {cs : List Value} (h : w.ownsRow base ty sz v n cs) (h0 : 0 < n) : ∃ C cq, v = .slice C n cq ∧ n ≤ cq := by
  rcases h.2 with ⟨-, h1⟩ | ⟨g, cap, cur, e0, hB, -, hc, -⟩
  · omega
  · exact ⟨_, _, e0, hc⟩
theorem insAt_take {w : World} {A : Option Addr} {xs : List Ins} (h : InsAt w A xs) (k : Nat) : InsAt w A (xs.take k) := fun i x hx => by
  rw [List.getElem?_take] at hx
  split at hx
  · exact h i x hx
  · cases hx
theorem sameI_self (x : Ins) : sameI x x = true := by simp [sameI, sameF]
theorem sameL_self : ∀ xs : List Ins, sameL xs xs = true
  | [] => rfl
  | x :: xs => by show (sameI x x && sameL xs xs) = true; rw [sameI_self, sameL_self xs]; rfl
set_option maxHeartbeats 8000000 in
set_option maxRecDepth 100000 in
theorem parts_law (A : Option Addr) (xs : List Ins) (n c : Nat) (A2 : Option Addr) (ts : List Cur) (m c2 : Nat) (d : Int) (hd0 : 0 ≤ d) (hd1 : d ≤ 255) (w : World) (hG : Glob w) (hn : xs.length = n) (hc : n ≤ c) (hnm : n ≤ 9223372036854775807) (h : InsAt w A xs) (ht : ts.length = m) (hc2 : m ≤ c2) (hs : ShortC ts) (h2 : CurAt w A2 ts) :
    Calls Tryz.prog 3 #[.slice A n c, .slice A2 m c2, .int .u8 d] w fun e w' => e = .returned (.bool true) ∧ Below w.heap.size w w' := by
  have CW := Lib.hid rAwake10
  have hgr := jGreat A xs c w (by omega) h
  rw [hn] at hgr
  have HGr := Lib.hid hgr
  have HI := Lib.hid h
  have H2 := Lib.hid h2
  have HN := Lib.hid hn
  have HK := Lib.hid ht
  have HSh := Lib.hid hs
  clear h h2 hn ht hs hgr
  go_enter Tryz.func3, Tryz.ntmps3
  go_wp2_with fail
  ((with_reducible refine HGr.out.mono ?_); rintro e w1 ⟨hres, hb⟩)
  clear HGr
  rcases hres with rfl | ⟨rfl, hx, hsn⟩
  · go_wp2_with fail
    ((with_reducible refine (CW.out.of hG hb).mono ?_); rintro e w99 ⟨rfl, hb99⟩)
    go_wp2
    go_ret
    exact ⟨rfl, bto hb hb99⟩
  have hn67 : n ≤ 67 := by unfold SmallN at hsn; omega
  have hn8 : n ≤ 8 ∨ 64 < n := by unfold SmallN at hsn; omega
  have HX := Lib.hid hx
  clear hx hsn
  by_cases h20 : 20 < m
  · have e1 : decide (20 < m) = true := decide_eq_true h20
    go_wp2_with fail
    ((with_reducible refine (CW.out.of hG hb).mono ?_); rintro e w99 ⟨rfl, hb99⟩)
    go_wp2
    go_ret
    exact ⟨rfl, bto hb hb99⟩
  have e1 : decide (20 < m) = false := decide_eq_false h20
  by_cases h0 : n = 0
  · have e2 : ((n : Int) == 0) = true := intbeq (by omega)
    have h0' : (n : Int) = 0 := by omega
    go_wp2_with fail
    ((with_reducible refine (CW.out.of hG hb).mono ?_); rintro e w99 ⟨rfl, hb99⟩)
    go_wp2
    go_ret
    exact ⟨rfl, bto hb hb99⟩
  have e2 : ((n : Int) == 0) = false := intbne (by omega)
  have CA := Lib.hid (iCheckAll A xs n c A2 ts m c2 w1 (hG.below hb) HN.out hc HX.out (HI.out.below hb) HK.out hc2 HSh.out (H2.out.below hb) (by omega))
  by_cases g0 : allE xs ts = 0
  rotate_left
  · have e3 : (allE xs ts != 0) = true := bneq' (intbne g0)
    generalize allE xs ts = E at *
    clear g0
    go_wp2_with fail
    ((with_reducible refine CA.out.mono ?_); rintro e w2 ⟨rfl, hb2⟩)
    replace hb := bto hb hb2
    clear hb2 CA
    go_wp2_with fail
    ((with_reducible refine (CW.out.of hG hb).mono ?_); rintro e w99 ⟨rfl, hb99⟩)
    go_wp2
    go_ret
    exact ⟨rfl, bto hb hb99⟩
  have HG0 := Lib.hid g0
  rw [g0] at CA
  clear g0
  have CC := Lib.hid (fun (w' : World) (hb : Below w.heap.size w w') => cloneI A xs n c w' HN.out (by omega) (by omega) (HI.out.below hb))
  obtain ⟨k, hk, hkn⟩ : ∃ k : Nat, d % (n : Int) = (k : Int) ∧ k < n := ⟨(d % (n : Int)).toNat, by have := Int.emod_nonneg d (show (n : Int) ≠ 0 by omega); omega, by have := Int.emod_nonneg d (show (n : Int) ≠ 0 by omega); have := Int.emod_lt_of_pos d (show (0 : Int) < n by omega); omega⟩
  have HKd := Lib.hid hk
  clear hk
  go_wp2_with fail
  ((with_reducible refine CA.out.mono ?_); rintro e w2 ⟨rfl, hb2⟩)
  replace hb := bto hb hb2
  clear hb2 CA
  go_wp2_with fail
  simp only [HKd.out]
  refine (CC.out _ hb).mono ?_
  rintro e w3 ⟨B, cp, rfl, hown, hb3⟩
  have hsz0 := hb.size
  replace hb := bto hb hb3
  have hown2 : w3.ownsRow w2.heap.size 34 15 (.slice B n cp) n (rowsI xs) := hown
  obtain ⟨g, cur, rfl, hg, hH, hcap, hsz, htk⟩ : ∃ g cur, B = some ⟨g, 0, none⟩ ∧ w2.heap.size ≤ g ∧ w3.heap[g]? = some (.cells cur 34 (0, 0)) ∧ n ≤ cp ∧ n * 15 ≤ cur.size ∧ cur.toList.take (n * 15) = rowsI xs := by
    rcases hown2.2 with ⟨hv, h1⟩ | ⟨g, cap, cur, hv, hb, hh, hcap, _, hsz, htk⟩
    · omega
    · injection hv with h1 _ h3
      subst h1 h3
      exact ⟨g, cur, rfl, hb, hh, hcap, by rw [hsz]; exact Nat.mul_le_mul_right _ hcap, htk⟩
  have CD := Lib.hid (delI g n cp k cur xs w3 HN.out hkn hcap hH hsz htk)
  have hwg : w.heap.size ≤ g := Nat.le_trans hsz0 hg
  clear hown hown2 hH hsz htk hb3
  go_wp2_with fail
  refine CD.out.mono ?_
  rintro e w4 ⟨rfl, HD1, hb4⟩
  have HDel := Lib.hid HD1
  replace hb := hb.trans (hb4.mono hwg)
  clear HD1 CD
  go_wp2_with fail
  obtain ⟨x, hxk⟩ : ∃ x, xs[k]? = some x := ⟨_, List.getElem?_eq_getElem (by rw [HN.out]; exact hkn)⟩
  obtain ⟨b, o, rfl, hbs, hic⟩ := (HI.out.below hb) k x hxk
  obtain ⟨i0, hi, hz0, hz1, hz2⟩ := info_parts info_ins
  have hki : (k : Int) < (n : Int) := by omega
  refine wp_region_fresh2D (by simp) (by simp) (by kernel_rfl) (by kernel_rfl) (by kernel_rfl) (by kernel_rfl) (by kernel_rfl) ?_
  simp only [List.dropLast_cons_cons, List.dropLast_singleton, List.getLast_cons_cons, List.getLast_singleton]
  refine fresh_val _ (fun _ => rfl) (fun ρ wz hw => by go_simp; first | done | with_reducible rfl) ?_
  simp only [Act.put, List.setIfInBounds_toArray, List.set_cons_zero, List.set_cons_succ, Nat.reduceAdd]
  refine fresh_new _ _ (fun wz u => ∃ B cp, u = .slice B n cp ∧ wz.ownsRow w4.heap.size 34 15 (.slice B n cp) n (rowsI xs)) (fun w1 w2 u ⟨B, cp, e, h1⟩ hb => ⟨B, cp, e, own_belowI h1 hb⟩) (fun _ => rfl) (fun ρ wz hw => by go_simp; first | done | with_reducible rfl) (fun wz hw => (CC.out wz (bto hb hw)).mono fun e w' ⟨B, cp, he, ho, hbb⟩ => ⟨_, he, hbb, B, cp, rfl, own_baseI ho hw.size⟩) ?_
  simp only [Act.put, List.setIfInBounds_toArray, List.set_cons_zero, List.set_cons_succ, Nat.reduceAdd]
  refine fresh_val _ (fun _ => rfl) (fun ρ wz hw => by go_simp; first | done | with_reducible rfl) ?_
  simp only [Act.put, List.setIfInBounds_toArray, List.set_cons_zero, List.set_cons_succ, Nat.reduceAdd]
  refine fresh_val _ (fun _ => rfl) (fun ρ wz hw => by go_simp; first | done | with_reducible rfl) ?_
  simp only [Act.put, List.setIfInBounds_toArray, List.set_cons_zero, List.set_cons_succ, Nat.reduceAdd]
  refine fresh_val _ (fun _ => rfl) (fun ρ wz hw => by go_simp; first | done | with_reducible rfl) ?_
  simp only [Act.put, List.setIfInBounds_toArray, List.set_cons_zero, List.set_cons_succ, Nat.reduceAdd]
  refine fresh_val _ (fun _ => rfl) (fun ρ wz hw => by obtain ⟨q0, q1, q2, q3, q4, q5, q6, q7, q8, q9, q10, q11, q12, q13, q14⟩ := hic.below hbs hw; go_simp; first | done | with_reducible rfl) ?_
  simp only [Act.put, List.setIfInBounds_toArray, List.set_cons_zero, List.set_cons_succ, Nat.reduceAdd]
  refine fresh_box (fun b => .slice (some ⟨b, 0, none⟩) 1 1) _ (fun _ => rfl) (fun ρ wz hw => by go_simp; first | done | with_reducible rfl) w4 (fun wz hw => hw.size) ?_
  simp only [Act.put, List.setIfInBounds_toArray, List.set_cons_zero, List.set_cons_succ, Nat.reduceAdd]
  intro ρ w5 hF
  obtain ⟨⟨B5, cp5, e5, HO5⟩, -⟩ := hF.box 1 _ rfl
  obtain ⟨⟨b6, e6, hb6, hh6⟩, -⟩ := hF.box 6 _ rfl
  have hbF := hF.below
  simp only [e5, e6]
  clear hF e5 e6
  refine wpList_append_own _ rfl _ _ 22 rfl w4.heap.size 34 i0 _ 15 192 Tryz.underlying22 hi hz0 hz1 hz2 rfl (by decide) _ _ _ rfl HO5 ⟨b6, 0, none⟩ 1 1 (#[Value.string ⟨List.toArray x.id⟩, Value.int .i64 x.kind, Value.string ⟨List.toArray x.cur⟩, Value.int .i64 x.places, Value.int .i64 x.issued, Value.int .i64 x.matures, Value.string ⟨List.toArray x.fn⟩, Value.string ⟨List.toArray x.fd⟩, Value.string ⟨List.toArray x.cn⟩, Value.string ⟨List.toArray x.cd⟩, Value.int .i64 x.months, Value.int .i64 x.count, Value.string ⟨List.toArray x.other⟩, Value.string ⟨List.toArray x.sn⟩, Value.string ⟨List.toArray x.sd⟩]).toList rfl ?c1 ?c2 ?c3 ?c4 ?c5 ?c6 ?_
  case c1 => rfl
  case c2 =>
    intro j u hu
    rw [Lib.add_plain, Nat.zero_add]
    have h1 : w5.cell? ⟨b6, j, none⟩ = _ := blk_cell hh6 j
    rw [h1]
    rw [← Array.getElem?_toList]; exact hu
  case c3 => exact fun u hu => rowsI_one [x] u (by rw [rowsI_cons]; exact List.mem_append_left _ hu)
  case c4 => unfold maxLen; omega
  case c5 => omega
  case c6 => exact hbF.size
  intro v' w6 hown hgrow _
  have hbN := Below.grown hbF hgrow hbF.size (own_blkI HO5)
  replace HDel := HDel.out.below hbN
  replace hb := bto hb hbN
  have hrow : rowsI xs ++ (#[Value.string ⟨List.toArray x.id⟩, Value.int .i64 x.kind, Value.string ⟨List.toArray x.cur⟩, Value.int .i64 x.places, Value.int .i64 x.issued, Value.int .i64 x.matures, Value.string ⟨List.toArray x.fn⟩, Value.string ⟨List.toArray x.fd⟩, Value.string ⟨List.toArray x.cn⟩, Value.string ⟨List.toArray x.cd⟩, Value.int .i64 x.months, Value.int .i64 x.count, Value.string ⟨List.toArray x.other⟩, Value.string ⟨List.toArray x.sn⟩, Value.string ⟨List.toArray x.sd⟩]).toList = rowsI (xs ++ [x]) := by
    unfold rowsI; rw [List.flatMap_append]; rfl
  obtain ⟨C, cq, rfl, hcq⟩ := own_openI hown (by omega)
  have HAp := own_insAt (xs := xs ++ [x]) (by rw [← hrow]; exact hown) (by rw [List.length_append, HN.out]; rfl)
  clear hbN hown hgrow hrow HO5 hh6 hb6 hbF hic hbs
  obtain ⟨T1, L1, -⟩ := allE_parts HG0.out
  have hn63 : n ≤ 63 := by rw [HN.out] at L1; omega
  have E1 : allE (xs.take k) ts = 0 := allE_sub HG0.out (List.take_sublist _ _)
  have E2 : allE (xs.eraseIdx k) ts = 0 := allE_sub HG0.out (List.eraseIdx_sublist ..)
  have E3 : allE (xs ++ [x]) ts = 5 := allE_twice HG0.out (List.mem_of_getElem? hxk) (by rw [HN.out]; exact hn63)
  have LE : (xs.eraseIdx k).length = n - 1 := by rw [List.length_eraseIdx_of_lt (by rw [HN.out]; exact hkn), HN.out]
  have CA1 := Lib.hid (iCheckAll (some ⟨b, o, none⟩) (xs.take k) k c A2 ts m c2 w6 (hG.below hb) (by rw [List.length_take, HN.out]; omega) (by omega) (fun y hy => HX.out y (List.mem_of_mem_take hy)) (insAt_take (HI.out.below hb) k) HK.out hc2 HSh.out (H2.out.below hb) (by omega))
  rw [E1] at CA1
  have k2 : (k : Int) ≤ (n : Int) := by omega
  have k3 : (k : Int) ≤ (c : Int) := by omega
  have HX3 : ∀ y ∈ xs ++ [x], y.Small := fun y hy => by
    rcases List.mem_append.1 hy with hy | hy
    · exact HX.out y hy
    · have : y = x := by simpa using hy
      rw [this]; exact HX.out x (List.mem_of_getElem? hxk)
  go_wp2_with fail
  ((with_reducible refine CA1.out.mono ?_); rintro e w7 ⟨rfl, hb7⟩)
  replace HDel := HDel.below hb7
  replace HAp := HAp.below hb7
  replace hb := bto hb hb7
  have CA2 := Lib.hid (iCheckAll (some ⟨g, 0, none⟩) (xs.eraseIdx k) (n - 1) cp A2 ts m c2 w7 (hG.below hb) LE (by omega) (fun y hy => HX.out y (List.mem_of_mem_eraseIdx hy)) HDel HK.out hc2 HSh.out (H2.out.below hb) (by omega))
  rw [E2] at CA2
  clear hb7 CA1
  go_wp2_with fail
  ((with_reducible refine CA2.out.mono ?_); rintro e w8 ⟨rfl, hb8⟩)
  replace HDel := HDel.below hb8
  replace HAp := HAp.below hb8
  replace hb := bto hb hb8
  have CA3 := Lib.hid (iCheckAll C (xs ++ [x]) (n + 1) cq A2 ts m c2 w8 (hG.below hb) (by rw [List.length_append, HN.out]; rfl) hcq HX3 HAp HK.out hc2 HSh.out (H2.out.below hb) (by omega))
  rw [E3] at CA3
  clear hb8 CA2 HAp
  go_wp2_with fail
  ((with_reducible refine CA3.out.mono ?_); rintro e w9 ⟨rfl, hb9⟩)
  replace HDel := HDel.below hb9
  replace hb := bto hb hb9
  have CCl := Lib.hid (CC.out w9 hb)
  clear hb9 CA3
  go_wp2_with fail
  refine CCl.out.mono ?_
  rintro e w10 ⟨B, cp9, rfl, hown, hb10⟩
  replace HDel := HDel.below hb10
  replace hb := bto hb hb10
  have CS1 := Lib.hid (iSame (some ⟨b, o, none⟩) B xs xs n n c cp9 w10 HN.out HN.out (by omega) (by omega) (HI.out.below hb) (own_insAt hown HN.out.symm))
  rw [sameL_self] at CS1
  clear hb10 CCl hown
  go_wp2_with fail
  ((with_reducible refine CS1.out.mono ?_); rintro e w11 ⟨rfl, hb11⟩)
  replace HDel := HDel.below hb11
  replace hb := bto hb hb11
  have CS2 := Lib.hid (iSame (some ⟨b, o, none⟩) (some ⟨g, 0, none⟩) xs (xs.eraseIdx k) n (n - 1) c cp w11 HN.out LE (by omega) (by omega) (HI.out.below hb) HDel)
  rw [sameL_len (by rw [LE, HN.out]; omega)] at CS2
  clear hb11 CS1
  go_wp2_with fail
  ((with_reducible refine CS2.out.mono ?_); rintro e w12 ⟨rfl, hb12⟩)
  replace hb := bto hb hb12
  have CT := Lib.hid (jTable A2 ts m c2 w12 (hG.below hb) HK.out HSh.out (H2.out.below hb))
  rw [T1] at CT
  clear hb12 CS2 HDel
  go_wp2_with fail
  ((with_reducible refine CT.out.mono ?_); rintro e w13 ⟨rfl, hb13⟩)
  replace hb := bto hb hb13
  clear hb13 CT
  go_wp2_with fail
  ((with_reducible refine (CW.out.of hG hb).mono ?_); rintro e w99 ⟨rfl, hb99⟩)
  go_wp2
  go_ret
  exact ⟨rfl, bto hb hb99⟩
end Go.Proofs.YtmjglcgdcclinaaGreatDoor
