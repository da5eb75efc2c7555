/- Cut of both packages. -/
import Derived.Test.YtmjglcgdcclinaaGreatDoorTv
import Derived.Test.YtmjglcgdcclinaaGreatDoorTm
namespace Go.Proofs.YtmjglcgdcclinaaGreatDoor
open Go.RowKit Num
def cutE (ts : List Pnt) (a b : Int) : Int := if pntE ts ≠ 0 then 1 else if dayB a = false then 13 else if dayB b = false then 13 else if b < a then 2 else if ts.filter (inPer a b) = [] then 11 else 0
def cutL (ts : List Pnt) (a b : Int) : List Pnt := if cutE ts a b = 0 then ts.filter (inPer a b) else []
theorem cutL_no {ts : List Pnt} {a b z : Int} (h : cutE ts a b = z) (h0 : z ≠ 0) : cutL ts a b = [] := by unfold cutL; rw [if_neg (by rw [h]; exact h0)]
theorem cutL_yes {ts : List Pnt} {a b : Int} (h : cutE ts a b = 0) : cutL ts a b = ts.filter (inPer a b) := by unfold cutL; rw [if_pos h]
theorem HO_open {w : World} {base : Nat} {vv : Value} {ys : List Pnt} (h : w.ownsRow base 50 3 vv ys.length (rowsQ ys)) : ∃ A' cp, vv = .slice A' ys.length cp ∧ PntAt w A' ys := by
  have h0 := h
  obtain ⟨-, h2⟩ := h
  rcases h2 with ⟨e0, h3⟩ | ⟨g, cap, cur, e0, h3⟩
  · refine ⟨none, 0, by rw [h3]; exact e0, ?_⟩
    rw [List.length_eq_zero_iff.1 h3]
    intro i t ht; simp at ht
  · refine ⟨_, cap, e0, ?_⟩
    rcases Nat.eq_zero_or_pos ys.length with hz | hz
    · rw [List.length_eq_zero_iff.1 hz]; intro i t ht; simp at ht
    · rw [e0] at h0
      obtain ⟨g', e1, -, hc⟩ := own_crow h0 (rowsQ_len ys) hz
      rw [e1]
      exact crow_pnt hc
theorem own_blk {w : World} {base n sz : Nat} {ty : TypeId} {v : Value} {cs : List Value} (h : w.ownsRow base ty sz v n cs) : ∀ j, v.ownBlock = some j → base ≤ j := fun j hj => by
  rcases h.2 with ⟨e0, -⟩ | ⟨g, cap, cur, e0, hB, -⟩
  · rw [e0] at hj; cases hj
  · rw [e0] at hj; simp [Value.ownBlock] at hj; omega
theorem Blk.grown {w w' : World} {b : Nat} {cs : Array Value} {row : Option Nat} (h : Blk w b cs) (hg : w.grownBy w' row) (hn : row ≠ some b) : Blk w' b cs := by
  obtain ⟨t, h⟩ := h
  exact ⟨t, (hg.block b (Array.getElem?_eq_some_iff.1 h).1 (fun e => hn e.symm)).trans h⟩
def CutEnd (ts : List Pnt) (a b : Int) (w : World) (e : Ending) (w' : World) : Prop := ∃ X m cp, e = .returned (.tuple #[.slice X m cp, .int .i64 (cutE ts a b)]) ∧ (cutL ts a b).length = m ∧ m ≤ ts.length ∧ PntAt w' X (cutL ts a b) ∧ Below w.heap.size w w'
theorem cutEnd_no {ts : List Pnt} {a b z : Int} {w w' : World} {X : Option Addr} {cp : Nat} (h : cutE ts a b = z) (h0 : z ≠ 0) (hb : Below w.heap.size w w') : CutEnd ts a b w (.returned (.tuple #[.slice X 0 cp, .int .i64 z])) w' :=
  ⟨X, 0, cp, by rw [h], by rw [cutL_no h h0]; rfl, Nat.zero_le _, by rw [cutL_no h h0]; intro i t ht; simp at ht, hb⟩
theorem cutEnd_yes {ts : List Pnt} {a b : Int} {w w' : World} {X : Option Addr} {m cp : Nat} (h : cutE ts a b = 0) (hm : (ts.filter (inPer a b)).length = m) (hp : PntAt w' X (ts.filter (inPer a b))) (hb : Below w.heap.size w w') : CutEnd ts a b w (.returned (.tuple #[.slice X m cp, .int .i64 0])) w' :=
  ⟨X, m, cp, by rw [h], by rw [cutL_yes h]; exact hm, by rw [← hm]; exact List.length_filter_le _ _, by rw [cutL_yes h]; exact hp, hb⟩

set_option maxHeartbeats 4000000 in
set_option maxRecDepth 100000 in
theorem twCut {w : World} {A : Option Addr} {ts : List Pnt} {n : Nat} (hG : Glob w) (h : QL w A ts n) (c : Nat) (a bb : Int) :
    Calls Tryz.prog 53 #[.slice A n c, .agg #[.int .i64 a, .int .i64 bb]] w (CutEnd ts a bb w) := by
  have C1 := Lib.hid (twCheckB hG h c)
  have C2 := Lib.hid (tValid a)
  have C3 := Lib.hid (tValid bb)
  have hb := below_alloc w (.cells #[.int .i64 a, .int .i64 bb] 72)
  have x3 := Blk.new w #[.int .i64 a, .int .i64 bb] 72
  by_cases g : pntE ts = 0
  rotate_left
  · have e1 : (pntE ts != 0) = true := bneq' (intbne g)
    have HE : Hid (cutE ts a bb = 1) := by show _ = _; unfold cutE; rw [if_pos g]
    generalize pntE ts = E at *
    clear g h C2 C3 x3
    go_enter Tryz.func53, Tryz.ntmps53
    go_wp2_with fail
    ((with_reducible refine (C1.out.of hG hb).mono ?_); rintro e w1 ⟨rfl, hb1⟩)
    replace hb := bto hb hb1
    clear hb1 C1
    go_wp2
    refine bodyPost_ret (v := .tuple #[.slice none 0 0, .int .i64 1]) (by simp [results, Tryz.results53, go_sem]) rfl ?_
    exact cutEnd_no HE.out (by decide) hb
  rw [g] at C1
  obtain ⟨h1, h12, -⟩ := h.ok g
  have HI := Lib.hid h.mem
  have HN := Lib.hid h.len
  have HG0 : Hid (¬ pntE ts ≠ 0) := fun hx => hx g
  clear g h
  cases g2 : dayB a
  · have HE : Hid (cutE ts a bb = 13) := by show _ = _; unfold cutE; rw [if_neg HG0.out, if_pos g2]
    rw [g2] at C2
    clear g2 HG0 HI HN C3
    go_enter Tryz.func53, Tryz.ntmps53
    go_wp2_with fail
    ((with_reducible refine (C1.out.of hG hb).mono ?_); rintro e w1 ⟨rfl, hb1⟩)
    replace x3 := x3.below hb1
    replace hb := bto hb hb1
    clear hb1 C1
    have p0 := x3.c 0
    have p1 := x3.c 1
    go_wp2_with fail
    clear p0 p1
    ((with_reducible refine (C2.out.of hG hb).mono ?_); rintro e w2 ⟨rfl, hb1⟩)
    replace x3 := x3.below hb1
    replace hb := bto hb hb1
    clear hb1 C2
    go_wp2
    refine bodyPost_ret (v := .tuple #[.slice none 0 0, .int .i64 13]) (by simp [results, Tryz.results53, go_sem]) rfl ?_
    exact cutEnd_no HE.out (by decide) hb
  rw [g2] at C2
  cases g3 : dayB bb
  · have HE : Hid (cutE ts a bb = 13) := by show _ = _; unfold cutE; rw [if_neg HG0.out, if_neg (by rw [g2]; decide), if_pos g3]
    rw [g3] at C3
    clear g2 g3 HG0 HI HN
    go_enter Tryz.func53, Tryz.ntmps53
    go_wp2_with fail
    ((with_reducible refine (C1.out.of hG hb).mono ?_); rintro e w1 ⟨rfl, hb1⟩)
    replace x3 := x3.below hb1
    replace hb := bto hb hb1
    clear hb1 C1
    have p0 := x3.c 0
    have p1 := x3.c 1
    go_wp2_with fail
    clear p0 p1
    ((with_reducible refine (C2.out.of hG hb).mono ?_); rintro e w2 ⟨rfl, hb1⟩)
    replace x3 := x3.below hb1
    replace hb := bto hb hb1
    clear hb1 C2
    have p0 := x3.c 0
    have p1 := x3.c 1
    go_wp2_with fail
    clear p0 p1
    ((with_reducible refine (C3.out.of hG hb).mono ?_); rintro e w3 ⟨rfl, hb1⟩)
    replace x3 := x3.below hb1
    replace hb := bto hb hb1
    clear hb1 C3
    go_wp2
    refine bodyPost_ret (v := .tuple #[.slice none 0 0, .int .i64 13]) (by simp [results, Tryz.results53, go_sem]) rfl ?_
    exact cutEnd_no HE.out (by decide) hb
  rw [g3] at C3
  by_cases g4 : bb < a
  · have HE : Hid (cutE ts a bb = 2) := by show _ = _; unfold cutE; rw [if_neg HG0.out, if_neg (by rw [g2]; decide), if_neg (by rw [g3]; decide), if_pos g4]
    have e4 : decide (bb < a) = true := decide_eq_true g4
    clear g2 g3 HG0 HI HN
    go_enter Tryz.func53, Tryz.ntmps53
    go_wp2_with fail
    ((with_reducible refine (C1.out.of hG hb).mono ?_); rintro e w1 ⟨rfl, hb1⟩)
    replace x3 := x3.below hb1
    replace hb := bto hb hb1
    clear hb1 C1
    have p0 := x3.c 0
    have p1 := x3.c 1
    go_wp2_with fail
    clear p0 p1
    ((with_reducible refine (C2.out.of hG hb).mono ?_); rintro e w2 ⟨rfl, hb1⟩)
    replace x3 := x3.below hb1
    replace hb := bto hb hb1
    clear hb1 C2
    have p0 := x3.c 0
    have p1 := x3.c 1
    go_wp2_with fail
    clear p0 p1
    ((with_reducible refine (C3.out.of hG hb).mono ?_); rintro e w3 ⟨rfl, hb1⟩)
    replace x3 := x3.below hb1
    replace hb := bto hb hb1
    clear hb1 C3
    have p0 := x3.c 0
    have p1 := x3.c 1
    go_wp2
    refine bodyPost_ret (v := .tuple #[.slice none 0 0, .int .i64 2]) (by simp [results, Tryz.results53, go_sem]) rfl ?_
    exact cutEnd_no HE.out (by decide) hb
  have e4 : decide (bb < a) = false := decide_eq_false g4
  have HF : Hid (ts.filter (inPer a bb) = [] → cutE ts a bb = 11) := fun hx => by unfold cutE; rw [if_neg HG0.out, if_neg (by rw [g2]; decide), if_neg (by rw [g3]; decide), if_neg g4, if_pos hx]
  have HY : Hid (ts.filter (inPer a bb) ≠ [] → cutE ts a bb = 0) := fun hx => by unfold cutE; rw [if_neg HG0.out, if_neg (by rw [g2]; decide), if_neg (by rw [g3]; decide), if_neg g4, if_neg hx]
  clear g2 g3 HG0
  go_enter Tryz.func53, Tryz.ntmps53
  go_wp2_with fail
  ((with_reducible refine (C1.out.of hG hb).mono ?_); rintro e w1 ⟨rfl, hb1⟩)
  replace x3 := x3.below hb1
  replace hb := bto hb hb1
  clear hb1 C1
  have p0 := x3.c 0
  have p1 := x3.c 1
  go_wp2_with fail
  clear p0 p1
  ((with_reducible refine (C2.out.of hG hb).mono ?_); rintro e w2 ⟨rfl, hb1⟩)
  replace x3 := x3.below hb1
  replace hb := bto hb hb1
  clear hb1 C2
  have p0 := x3.c 0
  have p1 := x3.c 1
  go_wp2_with fail
  clear p0 p1
  ((with_reducible refine (C3.out.of hG hb).mono ?_); rintro e w3 ⟨rfl, hb1⟩)
  replace x3 := x3.below hb1
  replace hb := bto hb hb1
  clear hb1 C3
  have p0 := x3.c 0
  have p1 := x3.c 1
  go_wp2_with fail
  clear p0 p1 e4 g4
  ((with_reducible refine (cloneQ A ts n c w3 HN.out (by omega) (by omega) (HI.out.below hb)).mono ?_); rintro e w4 ⟨g, cp, rfl, hcp, -, hg, -, HR, hb1⟩)
  have hlt := x3.lt
  have hne : w.heap.size ≠ g := by omega
  replace x3 := x3.below hb1
  replace hb := bto hb hb1
  clear hb1
  have C4 := Lib.hid (delPts g n cp ts a bb w.heap.size w w4 HN.out (by omega) hcp HR x3 hne hb (by omega))
  clear HR x3 hg
  go_wp2_with fail
  ((with_reducible refine C4.out.mono ?_); rintro e w5 ⟨m, cp', rfl, hmc, hml, HR, hb⟩)
  have HR2 := Lib.hid HR
  have hb5 := Lib.hid hb
  have HM := Lib.hid hml
  clear C4 HR hml hb
  rcases Nat.eq_zero_or_pos m with rfl | hm
  · have HE : Hid (cutE ts a bb = 11) := HF.out (List.length_eq_zero_iff.1 HM.out)
    go_wp2
    refine bodyPost_ret (v := .tuple #[.slice none 0 0, .int .i64 11]) (by simp [results, Tryz.results53, go_sem]) rfl ?_
    exact cutEnd_no HE.out (by decide) hb5.out
  · have HE : Hid (cutE ts a bb = 0) := HY.out (fun hx => by have h1 := HM.out; rw [hx] at h1; simp at h1; omega)
    have e5 : ((m : Int) == 0) = false := intbne (by omega)
    go_wp2
    refine bodyPost_ret (v := .tuple #[.slice (some ⟨g, 0, none⟩) m cp', .int .i64 0]) (by simp [results, Tryz.results53, go_sem]) rfl ?_
    exact cutEnd_yes HE.out HM.out (crow_pnt HR2.out) hb5.out
set_option maxHeartbeats 4000000 in
set_option maxRecDepth 100000 in
theorem rwCut {w : World} {A : Option Addr} {ts : List Pnt} {n : Nat} (hG : Glob w) (h : QL w A ts n) (c : Nat) (a bb : Int) :
    Calls Tryz.prog 54 #[.slice A n c, .agg #[.int .i64 a, .int .i64 bb]] w (CutEnd ts a bb w) := by
  have C1 := Lib.hid (rwCheckB hG h c)
  have C2 := Lib.hid (jDay a)
  have C3 := Lib.hid (jDay bb)
  have hb := below_alloc w (.cells #[.int .i64 a, .int .i64 bb] 72)
  have x3 := Blk.new w #[.int .i64 a, .int .i64 bb] 72
  by_cases g : pntE ts = 0
  rotate_left
  · have e1 : (pntE ts != 0) = true := bneq' (intbne g)
    have HE : Hid (cutE ts a bb = 1) := by show _ = _; unfold cutE; rw [if_pos g]
    generalize pntE ts = E at *
    clear g h C2 C3 x3
    go_enter Tryz.func54, Tryz.ntmps54
    go_wp2_with fail
    ((with_reducible refine (C1.out.of hG hb).mono ?_); rintro e w1 ⟨rfl, hb1⟩)
    replace hb := bto hb hb1
    clear hb1 C1
    go_wp2
    refine bodyPost_ret (v := .tuple #[.slice (some ⟨w1.heap.size, 0, none⟩) 0 0, .int .i64 1]) (by simp [results, Tryz.results54, go_sem]) rfl ?_
    exact cutEnd_no HE.out (by decide) (bto hb (below_alloc _ _))
  rw [g] at C1
  obtain ⟨h1, h12, -⟩ := h.ok g
  have HI := Lib.hid h.mem
  have HN := Lib.hid h.len
  have HG0 : Hid (¬ pntE ts ≠ 0) := fun hx => hx g
  clear g h
  cases g2 : dayB a
  · have HE : Hid (cutE ts a bb = 13) := by show _ = _; unfold cutE; rw [if_neg HG0.out, if_pos g2]
    rw [show dayE a = 13 by unfold dayE; rw [g2]; rfl] at C2
    clear g2 HG0 HI HN C3
    go_enter Tryz.func54, Tryz.ntmps54
    go_wp2_with fail
    ((with_reducible refine (C1.out.of hG hb).mono ?_); rintro e w1 ⟨rfl, hb1⟩)
    replace x3 := x3.below hb1
    replace hb := bto hb hb1
    clear hb1 C1
    have p0 := x3.c 0
    have p1 := x3.c 1
    go_wp2_with fail
    clear p0 p1
    ((with_reducible refine (C2.out.of hG hb).mono ?_); rintro e w2 ⟨rfl, hb1⟩)
    replace x3 := x3.below hb1
    replace hb := bto hb hb1
    clear hb1 C2
    go_wp2
    refine bodyPost_ret (v := .tuple #[.slice (some ⟨w2.heap.size, 0, none⟩) 0 0, .int .i64 13]) (by simp [results, Tryz.results54, go_sem]) rfl ?_
    exact cutEnd_no HE.out (by decide) (bto hb (below_alloc _ _))
  rw [show dayE a = 0 by unfold dayE; rw [g2]; rfl] at C2
  cases g3 : dayB bb
  · have HE : Hid (cutE ts a bb = 13) := by show _ = _; unfold cutE; rw [if_neg HG0.out, if_neg (by rw [g2]; decide), if_pos g3]
    rw [show dayE bb = 13 by unfold dayE; rw [g3]; rfl] at C3
    clear g2 g3 HG0 HI HN
    go_enter Tryz.func54, Tryz.ntmps54
    go_wp2_with fail
    ((with_reducible refine (C1.out.of hG hb).mono ?_); rintro e w1 ⟨rfl, hb1⟩)
    replace x3 := x3.below hb1
    replace hb := bto hb hb1
    clear hb1 C1
    have p0 := x3.c 0
    have p1 := x3.c 1
    go_wp2_with fail
    clear p0 p1
    ((with_reducible refine (C2.out.of hG hb).mono ?_); rintro e w2 ⟨rfl, hb1⟩)
    replace x3 := x3.below hb1
    replace hb := bto hb hb1
    clear hb1 C2
    have p0 := x3.c 0
    have p1 := x3.c 1
    go_wp2_with fail
    clear p0 p1
    ((with_reducible refine (C3.out.of hG hb).mono ?_); rintro e w3 ⟨rfl, hb1⟩)
    replace x3 := x3.below hb1
    replace hb := bto hb hb1
    clear hb1 C3
    go_wp2
    refine bodyPost_ret (v := .tuple #[.slice (some ⟨w3.heap.size, 0, none⟩) 0 0, .int .i64 13]) (by simp [results, Tryz.results54, go_sem]) rfl ?_
    exact cutEnd_no HE.out (by decide) (bto hb (below_alloc _ _))
  rw [show dayE bb = 0 by unfold dayE; rw [g3]; rfl] at C3
  by_cases g4 : bb < a
  · have HE : Hid (cutE ts a bb = 2) := by show _ = _; unfold cutE; rw [if_neg HG0.out, if_neg (by rw [g2]; decide), if_neg (by rw [g3]; decide), if_pos g4]
    have e4 : decide (bb < a) = true := decide_eq_true g4
    clear g2 g3 HG0 HI HN
    go_enter Tryz.func54, Tryz.ntmps54
    go_wp2_with fail
    ((with_reducible refine (C1.out.of hG hb).mono ?_); rintro e w1 ⟨rfl, hb1⟩)
    replace x3 := x3.below hb1
    replace hb := bto hb hb1
    clear hb1 C1
    have p0 := x3.c 0
    have p1 := x3.c 1
    go_wp2_with fail
    clear p0 p1
    ((with_reducible refine (C2.out.of hG hb).mono ?_); rintro e w2 ⟨rfl, hb1⟩)
    replace x3 := x3.below hb1
    replace hb := bto hb hb1
    clear hb1 C2
    have p0 := x3.c 0
    have p1 := x3.c 1
    go_wp2_with fail
    clear p0 p1
    ((with_reducible refine (C3.out.of hG hb).mono ?_); rintro e w3 ⟨rfl, hb1⟩)
    replace x3 := x3.below hb1
    replace hb := bto hb hb1
    clear hb1 C3
    have p0 := x3.c 0
    have p1 := x3.c 1
    go_wp2
    refine bodyPost_ret (v := .tuple #[.slice (some ⟨w3.heap.size, 0, none⟩) 0 0, .int .i64 2]) (by simp [results, Tryz.results54, go_sem]) rfl ?_
    exact cutEnd_no HE.out (by decide) (bto hb (below_alloc _ _))
  have e4 : decide (bb < a) = false := decide_eq_false g4
  have HF : Hid (ts.filter (inPer a bb) = [] → cutE ts a bb = 11) := fun hx => by unfold cutE; rw [if_neg HG0.out, if_neg (by rw [g2]; decide), if_neg (by rw [g3]; decide), if_neg g4, if_pos hx]
  have HY : Hid (ts.filter (inPer a bb) ≠ [] → cutE ts a bb = 0) := fun hx => by unfold cutE; rw [if_neg HG0.out, if_neg (by rw [g2]; decide), if_neg (by rw [g3]; decide), if_neg g4, if_neg hx]
  clear g2 g3 HG0
  go_enter Tryz.func54, Tryz.ntmps54
  go_wp2_with fail
  ((with_reducible refine (C1.out.of hG hb).mono ?_); rintro e w1 ⟨rfl, hb1⟩)
  replace x3 := x3.below hb1
  replace hb := bto hb hb1
  clear hb1 C1
  have p0 := x3.c 0
  have p1 := x3.c 1
  go_wp2_with fail
  clear p0 p1
  ((with_reducible refine (C2.out.of hG hb).mono ?_); rintro e w2 ⟨rfl, hb1⟩)
  replace x3 := x3.below hb1
  replace hb := bto hb hb1
  clear hb1 C2
  have p0 := x3.c 0
  have p1 := x3.c 1
  go_wp2_with fail
  clear p0 p1
  ((with_reducible refine (C3.out.of hG hb).mono ?_); rintro e w3 ⟨rfl, hb1⟩)
  replace x3 := x3.below hb1
  replace hb := bto hb hb1
  clear hb1 C3
  have p0 := x3.c 0
  have p1 := x3.c 1
  have HO := own_baseN (@World.ownsRow_made w3.heap.size 50 3 w3 #[] 0 (Nat.le_refl _) (Nat.zero_le _) (by simp)) x3.lt
  replace hb := bto hb (below_alloc _ (.cells #[] 50))
  replace x3 := x3.below (below_alloc _ (.cells #[] 50))
  obtain ⟨i0, hi, hz0, hz1, hz2⟩ := info_parts info_pnt
  go_wp2_with fail
  clear p0 p1 e4 g4
  go_loopw [6, 7] (fun vv iv wr => ∃ (k : Nat) (ys : List Pnt), k ≤ n ∧ iv = .int .i64 (k : Int) ∧ wr.ownsRow (w.heap.size + 1) 50 3 vv ys.length (rowsQ ys) ∧ Hid (ys = (ts.take k).filter (inPer a bb)) ∧ Blk wr w.heap.size #[.int .i64 a, .int .i64 bb] ∧ Below w.heap.size w wr) (fun _ iv _ => n - (intOf iv).toNat)
  case atStart => exact ⟨0, [], Nat.zero_le _, rfl, HO, rfl, x3, hb⟩
  case round =>
    clear hb HO x3
    obtain ⟨k, ys, hk, rfl, HO, HQ, x3, hb⟩ := hrel
    by_cases hlk : k < n
    rotate_left
    · have e1 : decide ((k : Int) < n) = false := decide_eq_false (by omega)
      have HQ2 : Hid (ys = ts.filter (inPer a bb)) := by
        have h1 := HQ.out
        rwa [List.take_of_length_le (by rw [HN.out]; omega)] at h1
      obtain ⟨A', cp, hv, hA⟩ := HO_open HO
      subst hv
      have HA := Lib.hid hA
      clear HQ HO hA
      rcases Nat.eq_zero_or_pos ys.length with hz | hm
      · have HE : Hid (cutE ts a bb = 11) := HF.out (by rw [← HQ2.out]; exact List.length_eq_zero_iff.1 hz)
        rw [hz]
        go_wp2
        refine bodyPost_ret (v := .tuple #[.slice (some ⟨wr.heap.size, 0, none⟩) 0 0, .int .i64 11]) (by simp [results, Tryz.results54, go_sem]) rfl ?_
        exact cutEnd_no HE.out (by decide) (bto hb (below_alloc _ _))
      · have HE : Hid (cutE ts a bb = 0) := HY.out (fun hx => by rw [← HQ2.out] at hx; rw [hx] at hm; simp at hm)
        have e5 : (((ys.length : Nat) : Int) == 0) = false := intbne (by omega)
        go_wp2
        refine bodyPost_ret (v := .tuple #[.slice A' ys.length cp, .int .i64 0]) (by simp [results, Tryz.results54, go_sem]) rfl ?_
        exact cutEnd_yes HE.out (by rw [← HQ2.out]) (by rw [← HQ2.out]; exact HA.out) hb
    have e1 : decide ((k : Int) < n) = true := decide_eq_true (by omega)
    obtain ⟨t, ht⟩ : ∃ t, ts[k]? = some t := ⟨_, List.getElem?_eq_getElem (by rw [HN.out]; omega)⟩
    obtain ⟨b, o, rfl, hbs, q0, q1, q2⟩ := (HI.out.below hb) k t ht
    have HS : Hid ((ts.take (k + 1)).filter (inPer a bb) = ys ++ [t].filter (inPer a bb)) := by
      show _ = _
      rw [take_snoc ht, List.filter_append, ← HQ.out]
    have p0 := x3.c 0
    have p1 := x3.c 1
    have k3 : (k : Int) < n := by omega
    clear ht HQ
    by_cases g1 : a ≤ t.day
    rotate_left
    · have e2 : decide (a ≤ t.day) = false := decide_eq_false g1
      have HQ2 : Hid (ys = (ts.take (k + 1)).filter (inPer a bb)) := by
        show _ = _
        rw [HS.out, List.filter_cons, if_neg (by unfold inPer; rw [e2]; simp)]; simp
      clear HS g1
      go_wp2_with fail
      go_quiet (fail)
      have HO5 := Lib.hid (own_belowN HO (bdrewN (Below.refl _ wr) nq))
      replace hb := bdrewN hb nq
      replace x3 := x3.below (bdrewN (Below.refl _ wr) nq)
      clear HO p0 p1 q0 q1 q2
      go_wp2
      go_roundw
      case rel => exact ⟨k + 1, ys, by omega, by go_num, HO5.out, HQ2, x3, hb⟩
      case measure => simp [intOf]; omega
    have e2 : decide (a ≤ t.day) = true := decide_eq_true g1
    by_cases g2 : t.day ≤ bb
    rotate_left
    · have e3 : decide (t.day ≤ bb) = false := decide_eq_false g2
      have HQ2 : Hid (ys = (ts.take (k + 1)).filter (inPer a bb)) := by
        show _ = _
        rw [HS.out, List.filter_cons, if_neg (by unfold inPer; rw [e2, e3]; simp)]; simp
      clear HS g2
      go_wp2_with fail
      go_quiet (fail)
      have HO5 := Lib.hid (own_belowN HO (bdrewN (Below.refl _ wr) nq))
      replace hb := bdrewN hb nq
      replace x3 := x3.below (bdrewN (Below.refl _ wr) nq)
      clear HO p0 p1 q0 q1 q2
      go_wp2
      go_roundw
      case rel => exact ⟨k + 1, ys, by omega, by go_num, HO5.out, HQ2, x3, hb⟩
      case measure => simp [intOf]; omega
    have e3 : decide (t.day ≤ bb) = true := decide_eq_true g2
    have HQ2 : Hid (ys ++ [t] = (ts.take (k + 1)).filter (inPer a bb)) := by
      show _ = _
      rw [HS.out, List.filter_cons, if_pos (by unfold inPer; rw [e2, e3]; simp)]; rfl
    have HRow : Hid (rowsQ (ys ++ [t]) = rowsQ ys ++ [.int .i64 t.day, .string ⟨t.vl.toArray⟩, .string ⟨t.fl.toArray⟩]) := by
      show _ = _
      rw [rowsQ_app]; rfl
    have HO1 := Lib.hid HO
    have hyl : ys.length ≤ k := by
      have h1 := congrArg List.length HQ2.out
      have h2 := List.length_filter_le (inPer a bb) (ts.take (k + 1))
      have h3 : (ts.take (k + 1)).length ≤ k + 1 := List.length_take_le _ _
      rw [← h1, List.length_append, List.length_singleton] at h2
      omega
    clear HS g1 g2 HO
    go_wp2_with fail
    go_quiet (fail)
    have HO5 := own_belowN HO1.out (bdrewN (Below.refl _ wr) nq)
    replace hb := bdrewN hb nq
    replace x3 := x3.below (bdrewN (Below.refl _ wr) nq)
    replace q0 := ((bdrewN (Below.refl wr.heap.size wr) nq).cell (p := ⟨b, o + k * 3, none⟩) hbs).trans q0
    replace q1 := ((bdrewN (Below.refl wr.heap.size wr) nq).cell (p := ⟨b, o + k * 3 + 1, none⟩) hbs).trans q1
    replace q2 := ((bdrewN (Below.refl wr.heap.size wr) nq).cell (p := ⟨b, o + k * 3 + 2, none⟩) hbs).trans q2
    generalize wr.drewN nq = w5 at *
    clear HO1 p0 p1
    go_wp2_with (at_builtin; refine wpList_append_own _ rfl _ _ 39 rfl (w.heap.size + 1) 50 i0 (.agg #[.int .i64 0, .string ⟨#[]⟩, .string ⟨#[]⟩]) 3 40 Tryz.underlying39 hi hz0 hz1 hz2 rfl (by decide) _ _ _ rfl (own_belowN HO5 (below_alloc _ _)) ⟨w5.heap.size, 0, none⟩ 1 1 [.int .i64 t.day, .string ⟨t.vl.toArray⟩, .string ⟨t.fl.toArray⟩] rfl ?c1 ?c2 ?c3 ?c4 ?c5 ?c6 ?_)
    case c1 => rfl
    case c2 =>
      intro j u hu
      match j with
      | 0 => simp at hu; subst hu; rw [Lib.add_plain]; simp [go_sem]
      | 1 => simp at hu; subst hu; rw [Lib.add_plain]; simp [go_sem]
      | 2 => simp at hu; subst hu; rw [Lib.add_plain]; simp [go_sem]
      | j + 3 => simp at hu
    case c3 =>
      intro u hu
      simp at hu
      rcases hu with rfl | rfl | rfl <;> rfl
    case c4 => unfold maxLen; omega
    case c5 => omega
    case c6 => have := x3.lt; simp; omega
    intro v' w6 hown hgrow _
    have hrow := own_blk HO5
    have hbA := below_alloc w5 (.cells #[.int .i64 t.day, .string ⟨t.vl.toArray⟩, .string ⟨t.fl.toArray⟩] 50)
    have hbN := Lib.hid (Below.grown (bto hb hbA) hgrow (by have := hb.size; simp; omega) (fun j hj => by have := hrow j hj; omega))
    have x4 := Lib.hid ((x3.below hbA).grown hgrow (fun hj => by have := hrow _ hj; omega))
    rw [← HRow.out] at hown
    have HO6 := Lib.hid hown
    have HL6 : ys.length + 1 = (ys ++ [t]).length := by rw [List.length_append]; rfl
    rw [HL6] at HO6
    clear hown hgrow HO5 hb x3 q0 q1 q2 hrow hbA
    go_wp2
    go_roundw
    case rel => exact ⟨k + 1, ys ++ [t], by omega, by go_num, HO6.out, HQ2.out, x4.out, hbN.out⟩
    case measure => simp [intOf]; omega
end Go.Proofs.YtmjglcgdcclinaaGreatDoor
