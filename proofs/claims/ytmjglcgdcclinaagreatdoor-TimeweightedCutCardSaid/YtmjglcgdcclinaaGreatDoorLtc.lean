/- TimeweightedCut. -/
import Derived.Test.YtmjglcgdcclinaaGreatDoorTw
import Derived.Test.YtmjglcgdcclinaaGreatDoorTj
namespace Go.Proofs.YtmjglcgdcclinaaGreatDoor
open Go.RowKit Num
set_option maxHeartbeats 4000000 in
set_option maxRecDepth 100000 in
theorem cut_law (A : Option Addr) (ts : List Pnt) (n c : Nat) (a bb : Int) (w : World) (hG : Glob w) (hn : ts.length = n) (hnm : n ≤ 9223372036854775807) (h : PntAt w A ts) :
    Calls Tryz.prog 10 #[.slice A n c, .agg #[.int .i64 a, .int .i64 bb]] w fun e w' => e = .returned (.bool true) ∧ Below w.heap.size w w' := by
  have CW := Lib.hid wAwake46
  have hb := below_alloc w (.cells #[.int .i64 a, .int .i64 bb] 72)
  have x3 := Blk.new w #[.int .i64 a, .int .i64 bb] 72
  have CF := Lib.hid (rGreat46 A ts n c (w.alloc (.cells #[.int .i64 a, .int .i64 bb] 72)) (hG.below hb) hn hnm (h.below hb))
  clear h hn
  go_enter Tryz.func10, Tryz.ntmps10
  go_wp2_with fail
  refine CF.out.mono ?_
  rintro e w2 ⟨b, rfl, hq, hb2⟩
  have hbq := hb2
  replace x3 := x3.below hb2
  replace hb := bto hb hb2
  cases b
  rotate_left
  · clear hq hb2 hbq CF x3
    go_wp2_with fail
    ((with_reducible refine (CW.out.of hG hb).mono ?_); rintro e w99 ⟨rfl, hb99⟩)
    go_wp2
    go_ret
    exact ⟨rfl, bto hb hb99⟩
  have HQ := (hq rfl).below hbq
  clear hq hb2 hbq CF
  have hG2 := hG.below hb
  have hr := Below.refl w2.heap.size w2
  have hn2 := HQ.sm
  have hn1 := HQ.len
  have CC1 := Lib.hid (twCut hG2 HQ c a bb)
  have CC2 : Hid (∀ w', Below w2.heap.size w2 w' → _) := fun w' hb => rwCut (hG2.below hb) (HQ.below hb) c a bb
  clear HQ
  have p0 := x3.c 0
  have p1 := x3.c 1
  go_wp2_with fail
  refine CC1.out.mono ?_
  rintro e w3 ⟨X, m, cp, rfl, hm, hmn, HP, hb3⟩
  replace x3 := x3.below hb3
  replace hb := bto hb hb3
  have CC2' := Lib.hid (CC2.out w3 hb3)
  clear hb3 CC1 CC2 p0 p1 hr
  have p0 := x3.c 0
  have p1 := x3.c 1
  go_wp2_with fail
  refine CC2'.out.mono ?_
  rintro e w4 ⟨X', m', cp', rfl, hm', -, HP', hb4⟩
  replace HP := HP.below hb4
  replace hb := bto hb hb4
  have CE := Lib.hid (eqPnts X X' (cutL ts a bb) (cutL ts a bb) m m' cp cp' w4 hm hm' (by omega) (by omega) HP HP')
  rw [sameQs_self] at CE
  generalize cutE ts a bb = z at *
  clear hb4 CC2' p0 p1 HP HP' hm hm' x3
  go_wp2_with fail
  ((with_reducible refine CE.out.mono ?_); rintro e w11 ⟨rfl, hb11⟩)
  replace hb := bto hb hb11
  clear hb11 CE
  go_wp2_with fail
  ((with_reducible refine (CW.out.of hG hb).mono ?_); rintro e w99 ⟨rfl, hb99⟩)
  go_wp2
  go_ret
  exact ⟨rfl, bto hb hb99⟩
end Go.Proofs.YtmjglcgdcclinaaGreatDoor
