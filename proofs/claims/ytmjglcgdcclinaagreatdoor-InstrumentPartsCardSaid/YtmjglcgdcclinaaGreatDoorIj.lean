/- tranchelaw10: Share, awake. -/
import Derived.Test.YtmjglcgdcclinaaGreatDoorIi
namespace Go.Proofs.YtmjglcgdcclinaaGreatDoor
open Go.RowKit Num
def shareX : Ins := ⟨[97, 98, 99], 1, [85, 83, 68], 0, 18262, 0, [], [], [], [], 0, 0, [], [], []⟩
def bondX : Ins := ⟨[98], 2, [85, 83, 68], 0, 18262, 0, [49, 48, 48], [], [], [], 6, 1, [], [], []⟩
theorem small_share : shareX.Small := ⟨by decide, by decide, by decide, by decide, by decide, by decide, by decide, by decide, by decide⟩
theorem small_bond : bondX.Small := ⟨by decide, by decide, by decide, by decide, by decide, by decide, by decide, by decide, by decide⟩
theorem chk_share : chkE shareX = 0 := by decide +kernel
theorem chk_bond : chkE bondX = 13 := by decide +kernel
theorem st_share (d : Int) (h : dayB d = true) : stE shareX d = (stOf shareX d, 0) := by
  unfold stE; rw [if_neg (fun h => h chk_share), if_neg (fun g => g h)]
set_option maxRecDepth 100000 in
theorem rShare : Ret 69 #[] (.agg #[.string ⟨#[97, 98, 99]⟩, .int .i64 1, .string ⟨#[85, 83, 68]⟩, .int .i64 0, .int .i64 18262, .int .i64 0, .string ⟨#[]⟩, .string ⟨#[]⟩, .string ⟨#[]⟩, .string ⟨#[]⟩, .int .i64 0, .int .i64 0, .string ⟨#[]⟩, .string ⟨#[]⟩, .string ⟨#[]⟩]) := fun w _ => by
  go_enter Tryz.func69, Tryz.ntmps69
  go_wp2
  refine bodyPost_ret (v := .agg #[.string ⟨#[97, 98, 99]⟩, .int .i64 1, .string ⟨#[85, 83, 68]⟩, .int .i64 0, .int .i64 18262, .int .i64 0, .string ⟨#[]⟩, .string ⟨#[]⟩, .string ⟨#[]⟩, .string ⟨#[]⟩, .int .i64 0, .int .i64 0, .string ⟨#[]⟩, .string ⟨#[]⟩, .string ⟨#[]⟩]) (by simp [results, Tryz.results69, go_sem]) rfl ?_
  exact ⟨rfl, below_alloc _ _⟩
theorem shSt (d z : Int) (h : dayB d = true) (e : stOf shareX d = z) : Ret 70 #[.agg #[.string ⟨#[97, 98, 99]⟩, .int .i64 1, .string ⟨#[85, 83, 68]⟩, .int .i64 0, .int .i64 18262, .int .i64 0, .string ⟨#[]⟩, .string ⟨#[]⟩, .string ⟨#[]⟩, .string ⟨#[]⟩, .int .i64 0, .int .i64 0, .string ⟨#[]⟩, .string ⟨#[]⟩, .string ⟨#[]⟩], .int .i64 d] (.tuple #[.int .i64 z, .int .i64 0]) := by
  have := iState shareX small_share d
  rw [st_share d h, e] at this
  exact this
theorem shCk : Ret 66 #[.agg #[.string ⟨#[97, 98, 99]⟩, .int .i64 1, .string ⟨#[85, 83, 68]⟩, .int .i64 0, .int .i64 18262, .int .i64 0, .string ⟨#[]⟩, .string ⟨#[]⟩, .string ⟨#[]⟩, .string ⟨#[]⟩, .int .i64 0, .int .i64 0, .string ⟨#[]⟩, .string ⟨#[]⟩, .string ⟨#[]⟩]] (.int .i64 0) := by
  have := iCheck shareX small_share
  rw [chk_share] at this
  exact this
theorem boCk : Ret 66 #[.agg #[.string ⟨#[98]⟩, .int .i64 2, .string ⟨#[85, 83, 68]⟩, .int .i64 0, .int .i64 18262, .int .i64 0, .string ⟨#[49, 48, 48]⟩, .string ⟨#[]⟩, .string ⟨#[]⟩, .string ⟨#[]⟩, .int .i64 6, .int .i64 1, .string ⟨#[]⟩, .string ⟨#[]⟩, .string ⟨#[]⟩]] (.int .i64 13) := by
  have := iCheck bondX small_bond
  rw [chk_bond] at this
  exact this
set_option maxHeartbeats 2000000 in
set_option maxRecDepth 100000 in
theorem rAwake10 : Ret 17 #[] (.bool true) := fun w hG => by
  have C0 := Lib.hid rShare
  have C1 := Lib.hid (shSt 18262 2 (by decide) (by decide))
  have C2 := Lib.hid (shSt 84005 2 (by decide) (by decide))
  have C3 := Lib.hid (shSt 18261 1 (by decide) (by decide))
  have C4 := Lib.hid shCk
  have C5 := Lib.hid boCk
  have hb := Below.refl w.heap.size w
  go_enter Tryz.func17, Tryz.ntmps17
  go_wp2_with fail
  ((with_reducible refine (C0.out.of hG hb).mono ?_); rintro e w2 ⟨rfl, hb2⟩)
  replace hb := bto hb hb2
  have x1 := Blk.new w2 #[.string ⟨#[97, 98, 99]⟩, .int .i64 1, .string ⟨#[85, 83, 68]⟩, .int .i64 0, .int .i64 18262, .int .i64 0, .string ⟨#[]⟩, .string ⟨#[]⟩, .string ⟨#[]⟩, .string ⟨#[]⟩, .int .i64 0, .int .i64 0, .string ⟨#[]⟩, .string ⟨#[]⟩, .string ⟨#[]⟩] 34
  replace hb := bto hb (below_alloc w2 (.cells #[.string ⟨#[97, 98, 99]⟩, .int .i64 1, .string ⟨#[85, 83, 68]⟩, .int .i64 0, .int .i64 18262, .int .i64 0, .string ⟨#[]⟩, .string ⟨#[]⟩, .string ⟨#[]⟩, .string ⟨#[]⟩, .int .i64 0, .int .i64 0, .string ⟨#[]⟩, .string ⟨#[]⟩, .string ⟨#[]⟩] 34))
  go_wp2_with fail
  ((with_reducible refine (C1.out.of hG hb).mono ?_); rintro e w3 ⟨rfl, hb3⟩)
  replace hb := bto hb hb3
  replace x1 := x1.below hb3
  have p0 : w3.cell? ⟨w2.heap.size, 0, none⟩ = some (.string ⟨#[97, 98, 99]⟩) := x1.c 0
  have p1 : w3.cell? ⟨w2.heap.size, 1, none⟩ = some (.int .i64 1) := x1.c 1
  have p2 : w3.cell? ⟨w2.heap.size, 2, none⟩ = some (.string ⟨#[85, 83, 68]⟩) := x1.c 2
  have p3 : w3.cell? ⟨w2.heap.size, 3, none⟩ = some (.int .i64 0) := x1.c 3
  have p4 : w3.cell? ⟨w2.heap.size, 4, none⟩ = some (.int .i64 18262) := x1.c 4
  have p5 : w3.cell? ⟨w2.heap.size, 5, none⟩ = some (.int .i64 0) := x1.c 5
  have p6 : w3.cell? ⟨w2.heap.size, 6, none⟩ = some (.string ⟨#[]⟩) := x1.c 6
  have p7 : w3.cell? ⟨w2.heap.size, 7, none⟩ = some (.string ⟨#[]⟩) := x1.c 7
  have p8 : w3.cell? ⟨w2.heap.size, 8, none⟩ = some (.string ⟨#[]⟩) := x1.c 8
  have p9 : w3.cell? ⟨w2.heap.size, 9, none⟩ = some (.string ⟨#[]⟩) := x1.c 9
  have p10 : w3.cell? ⟨w2.heap.size, 10, none⟩ = some (.int .i64 0) := x1.c 10
  have p11 : w3.cell? ⟨w2.heap.size, 11, none⟩ = some (.int .i64 0) := x1.c 11
  have p12 : w3.cell? ⟨w2.heap.size, 12, none⟩ = some (.string ⟨#[]⟩) := x1.c 12
  have p13 : w3.cell? ⟨w2.heap.size, 13, none⟩ = some (.string ⟨#[]⟩) := x1.c 13
  have p14 : w3.cell? ⟨w2.heap.size, 14, none⟩ = some (.string ⟨#[]⟩) := x1.c 14
  go_wp2_with fail
  ((with_reducible refine (C2.out.of hG hb).mono ?_); rintro e w4 ⟨rfl, hb4⟩)
  clear p0 p1 p2 p3 p4 p5 p6 p7 p8 p9 p10 p11 p12 p13 p14
  replace hb := bto hb hb4
  replace x1 := x1.below hb4
  have p0 : w4.cell? ⟨w2.heap.size, 0, none⟩ = some (.string ⟨#[97, 98, 99]⟩) := x1.c 0
  have p1 : w4.cell? ⟨w2.heap.size, 1, none⟩ = some (.int .i64 1) := x1.c 1
  have p2 : w4.cell? ⟨w2.heap.size, 2, none⟩ = some (.string ⟨#[85, 83, 68]⟩) := x1.c 2
  have p3 : w4.cell? ⟨w2.heap.size, 3, none⟩ = some (.int .i64 0) := x1.c 3
  have p4 : w4.cell? ⟨w2.heap.size, 4, none⟩ = some (.int .i64 18262) := x1.c 4
  have p5 : w4.cell? ⟨w2.heap.size, 5, none⟩ = some (.int .i64 0) := x1.c 5
  have p6 : w4.cell? ⟨w2.heap.size, 6, none⟩ = some (.string ⟨#[]⟩) := x1.c 6
  have p7 : w4.cell? ⟨w2.heap.size, 7, none⟩ = some (.string ⟨#[]⟩) := x1.c 7
  have p8 : w4.cell? ⟨w2.heap.size, 8, none⟩ = some (.string ⟨#[]⟩) := x1.c 8
  have p9 : w4.cell? ⟨w2.heap.size, 9, none⟩ = some (.string ⟨#[]⟩) := x1.c 9
  have p10 : w4.cell? ⟨w2.heap.size, 10, none⟩ = some (.int .i64 0) := x1.c 10
  have p11 : w4.cell? ⟨w2.heap.size, 11, none⟩ = some (.int .i64 0) := x1.c 11
  have p12 : w4.cell? ⟨w2.heap.size, 12, none⟩ = some (.string ⟨#[]⟩) := x1.c 12
  have p13 : w4.cell? ⟨w2.heap.size, 13, none⟩ = some (.string ⟨#[]⟩) := x1.c 13
  have p14 : w4.cell? ⟨w2.heap.size, 14, none⟩ = some (.string ⟨#[]⟩) := x1.c 14
  go_wp2_with fail
  ((with_reducible refine (C3.out.of hG hb).mono ?_); rintro e w5 ⟨rfl, hb5⟩)
  clear p0 p1 p2 p3 p4 p5 p6 p7 p8 p9 p10 p11 p12 p13 p14
  replace hb := bto hb hb5
  replace x1 := x1.below hb5
  have x8 := Blk.new w5 #[.string ⟨#[98]⟩, .int .i64 2, .string ⟨#[85, 83, 68]⟩, .int .i64 0, .int .i64 18262, .int .i64 0, .string ⟨#[49, 48, 48]⟩, .string ⟨#[]⟩, .string ⟨#[]⟩, .string ⟨#[]⟩, .int .i64 6, .int .i64 1, .string ⟨#[]⟩, .string ⟨#[]⟩, .string ⟨#[]⟩] 34
  have hA := below_alloc w5 (.cells #[.string ⟨#[98]⟩, .int .i64 2, .string ⟨#[85, 83, 68]⟩, .int .i64 0, .int .i64 18262, .int .i64 0, .string ⟨#[49, 48, 48]⟩, .string ⟨#[]⟩, .string ⟨#[]⟩, .string ⟨#[]⟩, .int .i64 6, .int .i64 1, .string ⟨#[]⟩, .string ⟨#[]⟩, .string ⟨#[]⟩] 34)
  replace x1 := x1.below hA
  replace hb := bto hb hA
  have p0 : (w5.alloc (.cells #[.string ⟨#[98]⟩, .int .i64 2, .string ⟨#[85, 83, 68]⟩, .int .i64 0, .int .i64 18262, .int .i64 0, .string ⟨#[49, 48, 48]⟩, .string ⟨#[]⟩, .string ⟨#[]⟩, .string ⟨#[]⟩, .int .i64 6, .int .i64 1, .string ⟨#[]⟩, .string ⟨#[]⟩, .string ⟨#[]⟩] 34)).cell? ⟨w2.heap.size, 0, none⟩ = some (.string ⟨#[97, 98, 99]⟩) := x1.c 0
  have p1 : (w5.alloc (.cells #[.string ⟨#[98]⟩, .int .i64 2, .string ⟨#[85, 83, 68]⟩, .int .i64 0, .int .i64 18262, .int .i64 0, .string ⟨#[49, 48, 48]⟩, .string ⟨#[]⟩, .string ⟨#[]⟩, .string ⟨#[]⟩, .int .i64 6, .int .i64 1, .string ⟨#[]⟩, .string ⟨#[]⟩, .string ⟨#[]⟩] 34)).cell? ⟨w2.heap.size, 1, none⟩ = some (.int .i64 1) := x1.c 1
  have p2 : (w5.alloc (.cells #[.string ⟨#[98]⟩, .int .i64 2, .string ⟨#[85, 83, 68]⟩, .int .i64 0, .int .i64 18262, .int .i64 0, .string ⟨#[49, 48, 48]⟩, .string ⟨#[]⟩, .string ⟨#[]⟩, .string ⟨#[]⟩, .int .i64 6, .int .i64 1, .string ⟨#[]⟩, .string ⟨#[]⟩, .string ⟨#[]⟩] 34)).cell? ⟨w2.heap.size, 2, none⟩ = some (.string ⟨#[85, 83, 68]⟩) := x1.c 2
  have p3 : (w5.alloc (.cells #[.string ⟨#[98]⟩, .int .i64 2, .string ⟨#[85, 83, 68]⟩, .int .i64 0, .int .i64 18262, .int .i64 0, .string ⟨#[49, 48, 48]⟩, .string ⟨#[]⟩, .string ⟨#[]⟩, .string ⟨#[]⟩, .int .i64 6, .int .i64 1, .string ⟨#[]⟩, .string ⟨#[]⟩, .string ⟨#[]⟩] 34)).cell? ⟨w2.heap.size, 3, none⟩ = some (.int .i64 0) := x1.c 3
  have p4 : (w5.alloc (.cells #[.string ⟨#[98]⟩, .int .i64 2, .string ⟨#[85, 83, 68]⟩, .int .i64 0, .int .i64 18262, .int .i64 0, .string ⟨#[49, 48, 48]⟩, .string ⟨#[]⟩, .string ⟨#[]⟩, .string ⟨#[]⟩, .int .i64 6, .int .i64 1, .string ⟨#[]⟩, .string ⟨#[]⟩, .string ⟨#[]⟩] 34)).cell? ⟨w2.heap.size, 4, none⟩ = some (.int .i64 18262) := x1.c 4
  have p5 : (w5.alloc (.cells #[.string ⟨#[98]⟩, .int .i64 2, .string ⟨#[85, 83, 68]⟩, .int .i64 0, .int .i64 18262, .int .i64 0, .string ⟨#[49, 48, 48]⟩, .string ⟨#[]⟩, .string ⟨#[]⟩, .string ⟨#[]⟩, .int .i64 6, .int .i64 1, .string ⟨#[]⟩, .string ⟨#[]⟩, .string ⟨#[]⟩] 34)).cell? ⟨w2.heap.size, 5, none⟩ = some (.int .i64 0) := x1.c 5
  have p6 : (w5.alloc (.cells #[.string ⟨#[98]⟩, .int .i64 2, .string ⟨#[85, 83, 68]⟩, .int .i64 0, .int .i64 18262, .int .i64 0, .string ⟨#[49, 48, 48]⟩, .string ⟨#[]⟩, .string ⟨#[]⟩, .string ⟨#[]⟩, .int .i64 6, .int .i64 1, .string ⟨#[]⟩, .string ⟨#[]⟩, .string ⟨#[]⟩] 34)).cell? ⟨w2.heap.size, 6, none⟩ = some (.string ⟨#[]⟩) := x1.c 6
  have p7 : (w5.alloc (.cells #[.string ⟨#[98]⟩, .int .i64 2, .string ⟨#[85, 83, 68]⟩, .int .i64 0, .int .i64 18262, .int .i64 0, .string ⟨#[49, 48, 48]⟩, .string ⟨#[]⟩, .string ⟨#[]⟩, .string ⟨#[]⟩, .int .i64 6, .int .i64 1, .string ⟨#[]⟩, .string ⟨#[]⟩, .string ⟨#[]⟩] 34)).cell? ⟨w2.heap.size, 7, none⟩ = some (.string ⟨#[]⟩) := x1.c 7
  have p8 : (w5.alloc (.cells #[.string ⟨#[98]⟩, .int .i64 2, .string ⟨#[85, 83, 68]⟩, .int .i64 0, .int .i64 18262, .int .i64 0, .string ⟨#[49, 48, 48]⟩, .string ⟨#[]⟩, .string ⟨#[]⟩, .string ⟨#[]⟩, .int .i64 6, .int .i64 1, .string ⟨#[]⟩, .string ⟨#[]⟩, .string ⟨#[]⟩] 34)).cell? ⟨w2.heap.size, 8, none⟩ = some (.string ⟨#[]⟩) := x1.c 8
  have p9 : (w5.alloc (.cells #[.string ⟨#[98]⟩, .int .i64 2, .string ⟨#[85, 83, 68]⟩, .int .i64 0, .int .i64 18262, .int .i64 0, .string ⟨#[49, 48, 48]⟩, .string ⟨#[]⟩, .string ⟨#[]⟩, .string ⟨#[]⟩, .int .i64 6, .int .i64 1, .string ⟨#[]⟩, .string ⟨#[]⟩, .string ⟨#[]⟩] 34)).cell? ⟨w2.heap.size, 9, none⟩ = some (.string ⟨#[]⟩) := x1.c 9
  have p10 : (w5.alloc (.cells #[.string ⟨#[98]⟩, .int .i64 2, .string ⟨#[85, 83, 68]⟩, .int .i64 0, .int .i64 18262, .int .i64 0, .string ⟨#[49, 48, 48]⟩, .string ⟨#[]⟩, .string ⟨#[]⟩, .string ⟨#[]⟩, .int .i64 6, .int .i64 1, .string ⟨#[]⟩, .string ⟨#[]⟩, .string ⟨#[]⟩] 34)).cell? ⟨w2.heap.size, 10, none⟩ = some (.int .i64 0) := x1.c 10
  have p11 : (w5.alloc (.cells #[.string ⟨#[98]⟩, .int .i64 2, .string ⟨#[85, 83, 68]⟩, .int .i64 0, .int .i64 18262, .int .i64 0, .string ⟨#[49, 48, 48]⟩, .string ⟨#[]⟩, .string ⟨#[]⟩, .string ⟨#[]⟩, .int .i64 6, .int .i64 1, .string ⟨#[]⟩, .string ⟨#[]⟩, .string ⟨#[]⟩] 34)).cell? ⟨w2.heap.size, 11, none⟩ = some (.int .i64 0) := x1.c 11
  have p12 : (w5.alloc (.cells #[.string ⟨#[98]⟩, .int .i64 2, .string ⟨#[85, 83, 68]⟩, .int .i64 0, .int .i64 18262, .int .i64 0, .string ⟨#[49, 48, 48]⟩, .string ⟨#[]⟩, .string ⟨#[]⟩, .string ⟨#[]⟩, .int .i64 6, .int .i64 1, .string ⟨#[]⟩, .string ⟨#[]⟩, .string ⟨#[]⟩] 34)).cell? ⟨w2.heap.size, 12, none⟩ = some (.string ⟨#[]⟩) := x1.c 12
  have p13 : (w5.alloc (.cells #[.string ⟨#[98]⟩, .int .i64 2, .string ⟨#[85, 83, 68]⟩, .int .i64 0, .int .i64 18262, .int .i64 0, .string ⟨#[49, 48, 48]⟩, .string ⟨#[]⟩, .string ⟨#[]⟩, .string ⟨#[]⟩, .int .i64 6, .int .i64 1, .string ⟨#[]⟩, .string ⟨#[]⟩, .string ⟨#[]⟩] 34)).cell? ⟨w2.heap.size, 13, none⟩ = some (.string ⟨#[]⟩) := x1.c 13
  have p14 : (w5.alloc (.cells #[.string ⟨#[98]⟩, .int .i64 2, .string ⟨#[85, 83, 68]⟩, .int .i64 0, .int .i64 18262, .int .i64 0, .string ⟨#[49, 48, 48]⟩, .string ⟨#[]⟩, .string ⟨#[]⟩, .string ⟨#[]⟩, .int .i64 6, .int .i64 1, .string ⟨#[]⟩, .string ⟨#[]⟩, .string ⟨#[]⟩] 34)).cell? ⟨w2.heap.size, 14, none⟩ = some (.string ⟨#[]⟩) := x1.c 14
  go_wp2_with fail
  ((with_reducible refine (C4.out.of hG hb).mono ?_); rintro e w6 ⟨rfl, hb6⟩)
  clear p0 p1 p2 p3 p4 p5 p6 p7 p8 p9 p10 p11 p12 p13 p14
  replace hb := bto hb hb6
  replace x1 := x1.below hb6
  replace x8 := x8.below hb6
  have p0 : w6.cell? ⟨w5.heap.size, 0, none⟩ = some (.string ⟨#[98]⟩) := x8.c 0
  have p1 : w6.cell? ⟨w5.heap.size, 1, none⟩ = some (.int .i64 2) := x8.c 1
  have p2 : w6.cell? ⟨w5.heap.size, 2, none⟩ = some (.string ⟨#[85, 83, 68]⟩) := x8.c 2
  have p3 : w6.cell? ⟨w5.heap.size, 3, none⟩ = some (.int .i64 0) := x8.c 3
  have p4 : w6.cell? ⟨w5.heap.size, 4, none⟩ = some (.int .i64 18262) := x8.c 4
  have p5 : w6.cell? ⟨w5.heap.size, 5, none⟩ = some (.int .i64 0) := x8.c 5
  have p6 : w6.cell? ⟨w5.heap.size, 6, none⟩ = some (.string ⟨#[49, 48, 48]⟩) := x8.c 6
  have p7 : w6.cell? ⟨w5.heap.size, 7, none⟩ = some (.string ⟨#[]⟩) := x8.c 7
  have p8 : w6.cell? ⟨w5.heap.size, 8, none⟩ = some (.string ⟨#[]⟩) := x8.c 8
  have p9 : w6.cell? ⟨w5.heap.size, 9, none⟩ = some (.string ⟨#[]⟩) := x8.c 9
  have p10 : w6.cell? ⟨w5.heap.size, 10, none⟩ = some (.int .i64 6) := x8.c 10
  have p11 : w6.cell? ⟨w5.heap.size, 11, none⟩ = some (.int .i64 1) := x8.c 11
  have p12 : w6.cell? ⟨w5.heap.size, 12, none⟩ = some (.string ⟨#[]⟩) := x8.c 12
  have p13 : w6.cell? ⟨w5.heap.size, 13, none⟩ = some (.string ⟨#[]⟩) := x8.c 13
  have p14 : w6.cell? ⟨w5.heap.size, 14, none⟩ = some (.string ⟨#[]⟩) := x8.c 14
  go_wp2_with fail
  ((with_reducible refine (C5.out.of hG hb).mono ?_); rintro e w7 ⟨rfl, hb7⟩)
  clear p0 p1 p2 p3 p4 p5 p6 p7 p8 p9 p10 p11 p12 p13 p14
  replace hb := bto hb hb7
  go_wp2
  go_ret
  exact ⟨rfl, hb⟩
end Go.Proofs.YtmjglcgdcclinaaGreatDoor
