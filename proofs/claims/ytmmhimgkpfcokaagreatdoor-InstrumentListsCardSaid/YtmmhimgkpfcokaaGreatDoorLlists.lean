/- InstrumentLists. -/
import Derived.Test.YtmmhimgkpfcokaaGreatDoorIv
import Derived.Test.YtmmhimgkpfcokaaGreatDoorIq
namespace Go.Proofs.YtmmhimgkpfcokaaGreatDoor
open Go.RowKit Num
theorem aliveE_len (xs : List Ins) (d : Int) : (aliveE xs d).1 = [] ∨ (aliveE xs d).1 = aliveL d xs := by
  unfold aliveE
  split
  · exact .inl rfl
  · split
    · exact .inl rfl
    · exact .inr rfl
set_option maxHeartbeats 8000000 in
set_option maxRecDepth 100000 in
theorem lists_law (A : Option Addr) (xs : List Ins) (n c : Nat) (B : Option Addr) (ys : List Ins) (m cm : Nat) (A2 : Option Addr) (ts : List Cur) (k ck : Nat) (id : List UInt8) (d : Int) (w : World) (hG : Glob w) (hn : xs.length = n) (hc : n ≤ c) (hnm : n ≤ 9223372036854775807) (h : InsAt w A xs) (hm : ys.length = m) (_hcm : m ≤ cm) (hmm : m ≤ 9223372036854775807) (h' : InsAt w B ys) (ht : ts.length = k) (hck : k ≤ ck) (hs : ShortC ts) (h2 : CurAt w A2 ts) :
    Calls Tryz.prog 4 #[.slice A n c, .slice B m cm, .slice A2 k ck, .string ⟨id.toArray⟩, .int .i64 d] w fun e w' => e = .returned (.bool true) ∧ Below w.heap.size w w' := by
  have CW := Lib.hid rAwake10
  have hgr := jGreat A xs c w (by omega) h
  rw [hn] at hgr
  have HGr := Lib.hid hgr
  have HI := Lib.hid h
  have HJ := Lib.hid h'
  have H2 := Lib.hid h2
  have HN := Lib.hid hn
  have HM := Lib.hid hm
  have HK := Lib.hid ht
  have HSh := Lib.hid hs
  clear h h' h2 hn hm ht hs hgr
  go_enter Tryz.func4, Tryz.ntmps4
  go_wp2_with fail
  ((with_reducible refine HGr.out.mono ?_); rintro e w1 ⟨hres, hb⟩)
  clear HGr
  rcases hres with rfl | ⟨rfl, hx, hsn⟩
  · go_wp2_with fail
    ((with_reducible refine (CW.out.of hG hb).mono ?_); rintro e w99 ⟨rfl, hb99⟩)
    go_wp2
    go_ret
    exact ⟨rfl, bto hb hb99⟩
  have hgr2 := jGreat B ys cm w1 (by rw [HM.out]; exact hmm) (HJ.out.below hb)
  rw [HM.out] at hgr2
  have HGr2 := Lib.hid hgr2
  have hn67 : n ≤ 67 := by unfold SmallN at hsn; omega
  have HX := Lib.hid hx
  clear hgr2 hx hsn
  go_wp2_with fail
  ((with_reducible refine HGr2.out.mono ?_); rintro e w2 ⟨hres, hb2⟩)
  clear HGr2
  replace hb := bto hb hb2
  clear hb2
  rcases hres with rfl | ⟨rfl, -, hsm⟩
  · go_wp2_with fail
    ((with_reducible refine (CW.out.of hG hb).mono ?_); rintro e w99 ⟨rfl, hb99⟩)
    go_wp2
    go_ret
    exact ⟨rfl, bto hb hb99⟩
  have hm67 : m ≤ 67 := by unfold SmallN at hsm; omega
  clear hsm
  by_cases h20 : 20 < k
  · have e1 : decide (20 < k) = true := decide_eq_true h20
    go_wp2_with fail
    ((with_reducible refine (CW.out.of hG hb).mono ?_); rintro e w99 ⟨rfl, hb99⟩)
    go_wp2
    go_ret
    exact ⟨rfl, bto hb hb99⟩
  have e1 : decide (20 < k) = false := decide_eq_false h20
  by_cases h100 : 100 < id.length
  · have e2 : decide (100 < id.length) = true := decide_eq_true h100
    go_wp2_with fail
    ((with_reducible refine (CW.out.of hG hb).mono ?_); rintro e w99 ⟨rfl, hb99⟩)
    go_wp2
    go_ret
    exact ⟨rfl, bto hb hb99⟩
  have e2 : decide (100 < id.length) = false := decide_eq_false h100
  have CL := Lib.hid (hasLong A2 ts k ck w2 (hG.below hb) HK.out (by omega) (H2.out.below hb))
  generalize idxC ts 0 = ic at *
  go_wp2_with fail
  ((with_reducible refine CL.out.mono ?_); rintro e w3 ⟨rfl, hb3⟩)
  replace hb := bto hb hb3
  clear hb3 CL e1 e2
  by_cases hic : 0 ≤ ic
  · rw [decide_eq_true hic]
    clear hic
    go_wp2_with fail
    ((with_reducible refine (CW.out.of hG hb).mono ?_); rintro e w99 ⟨rfl, hb99⟩)
    go_wp2
    go_ret
    exact ⟨rfl, bto hb hb99⟩
  rw [decide_eq_false hic]
  clear hic
  have c1 := iFind A xs n c id w3 HN.out (by omega) (HI.out.below hb)
  unfold findV at c1
  have C1 := Lib.hid c1
  clear c1
  go_wp2_with fail
  ((with_reducible refine C1.out.mono ?_); rintro e w4 ⟨rfl, hb4⟩)
  replace hb := bto hb hb4
  clear hb4 C1
  have c2 := jFind A xs n c id w4 HN.out (by omega) (HI.out.below hb)
  unfold findV at c2
  have C2 := Lib.hid c2
  clear c2
  generalize idxB (isId id) xs 0 = ix at *
  go_wp2_with fail
  ((with_reducible refine C2.out.mono ?_); rintro e w5 ⟨rfl, hb5⟩)
  replace hb := bto hb hb5
  clear hb5 C2
  have c3 := iAlive A xs n c d w5 (hG.below hb) HN.out (by omega) HX.out (HI.out.below hb)
  unfold StrsEnd at c3
  have C3 := Lib.hid c3
  clear c3
  go_wp2_with fail
  refine C3.out.mono ?_
  rintro e w6 ⟨P, cp, rfl, hst, hb6⟩
  replace hb := bto hb hb6
  clear hb6 C3
  have HS1 := Lib.hid hst
  clear hst
  have c4 := jAlive A xs n c d w6 (hG.below hb) HN.out (by omega) HX.out (HI.out.below hb)
  unfold StrsEnd at c4
  have C4 := Lib.hid c4
  have hal : (aliveE xs d).1.length ≤ 67 := by
    have h1 := aliveL_len d xs
    rw [HN.out] at h1
    rcases aliveE_len xs d with h2 | h2
    · rw [h2]; exact Nat.zero_le _
    · rw [h2]; omega
  clear c4
  go_wp2_with fail
  refine C4.out.mono ?_
  rintro e w7 ⟨Q, cq, rfl, hst, hb7⟩
  have HS2 := Lib.hid hst
  have HS1' := Lib.hid (HS1.out.below hb7)
  replace hb := bto hb hb7
  clear hb7 C4 hst HS1
  have C5 := Lib.hid (iCheckAll A xs n c A2 ts k ck w7 (hG.below hb) HN.out hc HX.out (HI.out.below hb) HK.out hck HSh.out (H2.out.below hb) (by omega))
  generalize (aliveE xs d).2 = ae at *
  generalize (aliveE xs d).1 = al at *
  go_wp2_with fail
  ((with_reducible refine C5.out.mono ?_); rintro e w8 ⟨rfl, hb8⟩)
  have HS3 := Lib.hid (HS2.out.below hb8)
  have HS4 := Lib.hid (HS1'.out.below hb8)
  replace hb := bto hb hb8
  clear hb8 C5 HS2 HS1'
  have C6 := Lib.hid (jCheckAll A xs n c A2 ts k ck w8 (hG.below hb) HN.out HX.out (HI.out.below hb) HK.out HSh.out (H2.out.below hb) (by omega))
  generalize allE xs ts = ea at *
  go_wp2_with fail
  ((with_reducible refine C6.out.mono ?_); rintro e w9 ⟨rfl, hb9⟩)
  have HS5 := Lib.hid (HS3.out.below hb9)
  have HS6 := Lib.hid (HS4.out.below hb9)
  replace hb := bto hb hb9
  clear hb9 C6 HS3 HS4
  have C7 := Lib.hid (eqStr P Q al al.length cp cq w9 rfl (by omega) HS6.out HS5.out)
  go_wp2_with fail
  ((with_reducible refine C7.out.mono ?_); rintro e w10 ⟨rfl, hb10⟩)
  replace hb := bto hb hb10
  clear hb10 C7 HS5 HS6
  have C8 := Lib.hid (iSame A B xs ys n m c cm w10 HN.out HM.out (by omega) (by omega) (HI.out.below hb) (HJ.out.below hb))
  go_wp2_with fail
  ((with_reducible refine C8.out.mono ?_); rintro e w11 ⟨rfl, hb11⟩)
  replace hb := bto hb hb11
  clear hb11 C8
  have C9 := Lib.hid (jSame A B xs ys n m c cm w11 HN.out HM.out (by omega) (by omega) (HI.out.below hb) (HJ.out.below hb))
  generalize sameL xs ys = sl at *
  go_wp2_with fail
  ((with_reducible refine C9.out.mono ?_); rintro e w12 ⟨rfl, hb12⟩)
  replace hb := bto hb hb12
  clear hb12 C9
  go_wp2_with fail
  ((with_reducible refine (CW.out.of hG hb).mono ?_); rintro e w99 ⟨rfl, hb99⟩)
  go_wp2
  go_ret
  exact ⟨rfl, bto hb hb99⟩
end Go.Proofs.YtmmhimgkpfcokaaGreatDoor
