/- Package fraction: Parse. -/
import Derived.Test.YtjhafnnfkaejgaaGreatDoorParsea
import Derived.Test.YtjhafnnfkaejgaaGreatDoorShelfCut
namespace Go.Proofs.YtjhafnnfkaejgaaGreatDoor
open Go.RowKit Num

theorem rCut (s : List UInt8) (hs : s.length ≤ 1000000) : Ret 72 #[.string ⟨s.toArray⟩, .string ⟨#[47]⟩] (.tuple #[.string ⟨(Lib.cut s [47]).1.toArray⟩, .string ⟨(Lib.cut s [47]).2.1.toArray⟩, .bool (Lib.cut s [47]).2.2]) := fun w hG => by
  obtain ⟨m, hm⟩ := hG.2
  have h := Any.strings_Cut { Tryz.laysM145 with } ⟨s.toArray⟩ ⟨#[47]⟩ m w (by show s.toArray.size < _; simp; omega) hm
  exact h.mono fun e w' ⟨he, n, hw⟩ => by
    subst hw
    exact ⟨he, bdrewN (Below.refl _ _) n⟩
theorem riParse (l : List UInt8) (hl : l.length ≤ 1000000) : Ret 73 #[.string ⟨l.toArray⟩] (.tuple #[.string ⟨(parseI l).1.toArray⟩, .int .i64 (parseI l).2]) := fun w _ => iparse_any l w hl
theorem rMade {l l' : List UInt8} (hl : l.length ≤ 1000000) (hl' : l'.length ≤ 1000000) (h0 : val l' ≠ 0) : Ret 51 #[.string ⟨l.toArray⟩, .string ⟨l'.toArray⟩] (Value.agg #[Value.string ⟨List.toArray (fN (Rat.divInt (val l) (val l')))⟩, Value.string ⟨List.toArray (fD (Rat.divInt (val l) (val l')))⟩]) := fun w hG => made_any l l' w hl hl' hG h0

set_option maxHeartbeats 1000000 in
set_option maxRecDepth 100000 in
/-- the numerator is no integer -/
theorem fparse_e1 (s a b0 b n d : List UInt8) (sl : Bool) (e1 e2 : Int) (w : World) (hG : Glob w) (hs : s.length ≤ 65536) (hbt : sl = true → b = b0) (hbf : sl = false → b = [49])
    (cC : Ret 72 #[.string ⟨s.toArray⟩, .string ⟨#[47]⟩] (.tuple #[.string ⟨a.toArray⟩, .string ⟨b0.toArray⟩, .bool sl]))
    (c1 : Ret 73 #[.string ⟨a.toArray⟩] (.tuple #[.string ⟨n.toArray⟩, .int .i64 e1])) (c2 : Ret 73 #[.string ⟨b.toArray⟩] (.tuple #[.string ⟨d.toArray⟩, .int .i64 e2]))
    (h1' : (e1 != 0) = true) :
    Calls Tryz.prog 43 #[.string ⟨s.toArray⟩] w fun e w' => e = .returned (.tuple #[.agg #[.string ⟨#[]⟩, .string ⟨#[]⟩], .int .i64 3]) ∧ Below w.heap.size w w' := by
  have k0 : ¬ 65536 < s.length := by omega
  have k0' : decide (65536 < s.length) = false := decide_eq_false k0
  clear hs
  cases sl
  all_goals
    first | obtain rfl := hbf rfl | obtain rfl := hbt rfl
    clear hbt hbf
    have hb := below_alloc w (.cells #[.string ⟨#[]⟩, .string ⟨#[]⟩] 24)
    have x2 := FBox.new w (.string ⟨#[]⟩) (.string ⟨#[]⟩) 24
    go_enter Tryz.func43, Tryz.ntmps43
    go_wp2_with fail
    ((with_reducible refine (cC.of hG hb).mono ?_); rintro e w1 ⟨rfl, hb1⟩)
    replace x2 := x2.below hb1
    replace hb := bto hb hb1
    go_wp2_with fail
    ((with_reducible refine (c1.of hG hb).mono ?_); rintro e w2 ⟨rfl, hb2⟩)
    replace x2 := x2.below hb2
    replace hb := bto hb hb2
    go_wp2_with fail
    ((with_reducible refine (c2.of hG hb).mono ?_); rintro e w3 ⟨rfl, hb3⟩)
    replace x2 := x2.below hb3
    replace hb := bto hb hb3
    clear hb1 hb2 hb3
    have f0 := x2.f0
    have f1 := x2.f1
    have c0 := x2.c0
    have c1 := x2.c1
    go_wp2_with fail
    have hy := x2.set (.string ⟨#[]⟩) (.string ⟨#[]⟩)
    have d0 := hy.c0
    have d1 := hy.c1
    refine bodyPost_ret (v := .tuple #[.agg #[.string ⟨#[]⟩, .string ⟨#[]⟩], .int .i64 3]) (by simp [results, Tryz.results43, go_sem, d0, d1]) rfl ?_
    exact ⟨rfl, below_set2 hb (Nat.le_refl _) _ _⟩

set_option maxHeartbeats 1000000 in
set_option maxRecDepth 100000 in
/-- the denominator is no integer -/
theorem fparse_e2 (s a b0 b n d : List UInt8) (sl : Bool) (e1 e2 : Int) (w : World) (hG : Glob w) (hs : s.length ≤ 65536) (hbt : sl = true → b = b0) (hbf : sl = false → b = [49])
    (cC : Ret 72 #[.string ⟨s.toArray⟩, .string ⟨#[47]⟩] (.tuple #[.string ⟨a.toArray⟩, .string ⟨b0.toArray⟩, .bool sl]))
    (c1 : Ret 73 #[.string ⟨a.toArray⟩] (.tuple #[.string ⟨n.toArray⟩, .int .i64 e1])) (c2 : Ret 73 #[.string ⟨b.toArray⟩] (.tuple #[.string ⟨d.toArray⟩, .int .i64 e2]))
    (h1' : (e1 != 0) = false) (h2' : (e2 != 0) = true) :
    Calls Tryz.prog 43 #[.string ⟨s.toArray⟩] w fun e w' => e = .returned (.tuple #[.agg #[.string ⟨#[]⟩, .string ⟨#[]⟩], .int .i64 3]) ∧ Below w.heap.size w w' := by
  have k0 : ¬ 65536 < s.length := by omega
  have k0' : decide (65536 < s.length) = false := decide_eq_false k0
  clear hs
  cases sl
  all_goals
    first | obtain rfl := hbf rfl | obtain rfl := hbt rfl
    clear hbt hbf
    have hb := below_alloc w (.cells #[.string ⟨#[]⟩, .string ⟨#[]⟩] 24)
    have x2 := FBox.new w (.string ⟨#[]⟩) (.string ⟨#[]⟩) 24
    go_enter Tryz.func43, Tryz.ntmps43
    go_wp2_with fail
    ((with_reducible refine (cC.of hG hb).mono ?_); rintro e w1 ⟨rfl, hb1⟩)
    replace x2 := x2.below hb1
    replace hb := bto hb hb1
    go_wp2_with fail
    ((with_reducible refine (c1.of hG hb).mono ?_); rintro e w2 ⟨rfl, hb2⟩)
    replace x2 := x2.below hb2
    replace hb := bto hb hb2
    go_wp2_with fail
    ((with_reducible refine (c2.of hG hb).mono ?_); rintro e w3 ⟨rfl, hb3⟩)
    replace x2 := x2.below hb3
    replace hb := bto hb hb3
    clear hb1 hb2 hb3
    have f0 := x2.f0
    have f1 := x2.f1
    have c0 := x2.c0
    have c1 := x2.c1
    go_wp2_with fail
    have hy := x2.set (.string ⟨#[]⟩) (.string ⟨#[]⟩)
    have d0 := hy.c0
    have d1 := hy.c1
    refine bodyPost_ret (v := .tuple #[.agg #[.string ⟨#[]⟩, .string ⟨#[]⟩], .int .i64 3]) (by simp [results, Tryz.results43, go_sem, d0, d1]) rfl ?_
    exact ⟨rfl, below_set2 hb (Nat.le_refl _) _ _⟩

set_option maxHeartbeats 1000000 in
set_option maxRecDepth 100000 in
/-- the denominator is not positive -/
theorem fparse_d (s a b0 b n d : List UInt8) (sl : Bool) (e1 e2 : Int) (w : World) (hG : Glob w) (hs : s.length ≤ 65536) (hbt : sl = true → b = b0) (hbf : sl = false → b = [49])
    (cC : Ret 72 #[.string ⟨s.toArray⟩, .string ⟨#[47]⟩] (.tuple #[.string ⟨a.toArray⟩, .string ⟨b0.toArray⟩, .bool sl]))
    (c1 : Ret 73 #[.string ⟨a.toArray⟩] (.tuple #[.string ⟨n.toArray⟩, .int .i64 e1])) (c2 : Ret 73 #[.string ⟨b.toArray⟩] (.tuple #[.string ⟨d.toArray⟩, .int .i64 e2]))
    (z : Int) (h1' : (e1 != 0) = false) (h2' : (e2 != 0) = false) (c3 : Ret 41 #[.string ⟨d.toArray⟩, .string ⟨#[]⟩] (.int .i64 z)) (h3 : z ≤ 0) :
    Calls Tryz.prog 43 #[.string ⟨s.toArray⟩] w fun e w' => e = .returned (.tuple #[.agg #[.string ⟨#[]⟩, .string ⟨#[]⟩], .int .i64 3]) ∧ Below w.heap.size w w' := by
  have k0 : ¬ 65536 < s.length := by omega
  have k0' : decide (65536 < s.length) = false := decide_eq_false k0
  clear hs
  cases sl
  all_goals
    first | obtain rfl := hbf rfl | obtain rfl := hbt rfl
    clear hbt hbf
    have hb := below_alloc w (.cells #[.string ⟨#[]⟩, .string ⟨#[]⟩] 24)
    have x2 := FBox.new w (.string ⟨#[]⟩) (.string ⟨#[]⟩) 24
    go_enter Tryz.func43, Tryz.ntmps43
    go_wp2_with fail
    ((with_reducible refine (cC.of hG hb).mono ?_); rintro e w1 ⟨rfl, hb1⟩)
    replace x2 := x2.below hb1
    replace hb := bto hb hb1
    go_wp2_with fail
    ((with_reducible refine (c1.of hG hb).mono ?_); rintro e w2 ⟨rfl, hb2⟩)
    replace x2 := x2.below hb2
    replace hb := bto hb hb2
    go_wp2_with fail
    ((with_reducible refine (c2.of hG hb).mono ?_); rintro e w3 ⟨rfl, hb3⟩)
    replace x2 := x2.below hb3
    replace hb := bto hb hb3
    clear hb1 hb2 hb3
    go_wp2_with fail
    ((with_reducible refine (c3.of hG hb).mono ?_); rintro e w4 ⟨rfl, hb4⟩)
    replace x2 := x2.below hb4
    replace hb := bto hb hb4
    have f0 := x2.f0
    have f1 := x2.f1
    have c0 := x2.c0
    have c1 := x2.c1
    go_wp2_with fail
    have hy := x2.set (.string ⟨#[]⟩) (.string ⟨#[]⟩)
    have d0 := hy.c0
    have d1 := hy.c1
    refine bodyPost_ret (v := .tuple #[.agg #[.string ⟨#[]⟩, .string ⟨#[]⟩], .int .i64 3]) (by simp [results, Tryz.results43, go_sem, d0, d1]) rfl ?_
    exact ⟨rfl, below_set2 hb (Nat.le_refl _) _ _⟩

set_option maxHeartbeats 1000000 in
set_option maxRecDepth 100000 in
/-- the text is another -/
theorem fparse_no (s a b0 b n d : List UInt8) (sl : Bool) (e1 e2 : Int) (w : World) (hG : Glob w) (hs : s.length ≤ 65536) (hbt : sl = true → b = b0) (hbf : sl = false → b = [49])
    (cC : Ret 72 #[.string ⟨s.toArray⟩, .string ⟨#[47]⟩] (.tuple #[.string ⟨a.toArray⟩, .string ⟨b0.toArray⟩, .bool sl]))
    (c1 : Ret 73 #[.string ⟨a.toArray⟩] (.tuple #[.string ⟨n.toArray⟩, .int .i64 e1])) (c2 : Ret 73 #[.string ⟨b.toArray⟩] (.tuple #[.string ⟨d.toArray⟩, .int .i64 e2]))
    (z : Int) (h1' : (e1 != 0) = false) (h2' : (e2 != 0) = false) (c3 : Ret 41 #[.string ⟨d.toArray⟩, .string ⟨#[]⟩] (.int .i64 z)) (h3' : decide (z ≤ 0) = false) (N D t : List UInt8)
    (c4 : Ret 51 #[.string ⟨n.toArray⟩, .string ⟨d.toArray⟩] (Value.agg #[Value.string ⟨List.toArray N⟩, Value.string ⟨List.toArray D⟩])) (c5 : Ret 45 #[(Value.agg #[Value.string ⟨List.toArray N⟩, Value.string ⟨List.toArray D⟩])] (.string ⟨t.toArray⟩)) (h4 : (t == s) = false) :
    Calls Tryz.prog 43 #[.string ⟨s.toArray⟩] w fun e w' => e = .returned (.tuple #[.agg #[.string ⟨#[]⟩, .string ⟨#[]⟩], .int .i64 3]) ∧ Below w.heap.size w w' := by
  have k0 : ¬ 65536 < s.length := by omega
  have k0' : decide (65536 < s.length) = false := decide_eq_false k0
  clear hs
  cases sl
  all_goals
    first | obtain rfl := hbf rfl | obtain rfl := hbt rfl
    clear hbt hbf
    have hb := below_alloc w (.cells #[.string ⟨#[]⟩, .string ⟨#[]⟩] 24)
    have x2 := FBox.new w (.string ⟨#[]⟩) (.string ⟨#[]⟩) 24
    go_enter Tryz.func43, Tryz.ntmps43
    go_wp2_with fail
    ((with_reducible refine (cC.of hG hb).mono ?_); rintro e w1 ⟨rfl, hb1⟩)
    replace x2 := x2.below hb1
    replace hb := bto hb hb1
    go_wp2_with fail
    ((with_reducible refine (c1.of hG hb).mono ?_); rintro e w2 ⟨rfl, hb2⟩)
    replace x2 := x2.below hb2
    replace hb := bto hb hb2
    go_wp2_with fail
    ((with_reducible refine (c2.of hG hb).mono ?_); rintro e w3 ⟨rfl, hb3⟩)
    replace x2 := x2.below hb3
    replace hb := bto hb hb3
    clear hb1 hb2 hb3
    go_wp2_with fail
    ((with_reducible refine (c3.of hG hb).mono ?_); rintro e w4 ⟨rfl, hb4⟩)
    replace x2 := x2.below hb4
    replace hb := bto hb hb4
    go_wp2_with fail
    ((with_reducible refine (c4.of hG hb).mono ?_); rintro e w5 ⟨rfl, hb5⟩)
    replace x2 := x2.below hb5
    replace hb := bto hb hb5
    replace x2 := x2.below (below_alloc w5 (.cells #[.string ⟨N.toArray⟩, .string ⟨D.toArray⟩] 24))
    replace hb := bto hb (below_alloc w5 (.cells #[.string ⟨N.toArray⟩, .string ⟨D.toArray⟩] 24))
    have x11 := FBox.new w5 (.string ⟨N.toArray⟩) (.string ⟨D.toArray⟩) 24
    have g0 := x11.c0
    have g1 := x11.c1
    go_wp2_with fail
    ((with_reducible refine (c5.of hG hb).mono ?_); rintro e w6 ⟨rfl, hb6⟩)
    replace x2 := x2.below hb6
    replace hb := bto hb hb6
    clear g0 g1
    replace x11 := x11.below hb6
    have g0 := x11.c0
    have g1 := x11.c1
    have f0 := x2.f0
    have f1 := x2.f1
    have c0 := x2.c0
    have c1 := x2.c1
    go_wp2_with fail
    have hy := x2.set (.string ⟨#[]⟩) (.string ⟨#[]⟩)
    have d0 := hy.c0
    have d1 := hy.c1
    refine bodyPost_ret (v := .tuple #[.agg #[.string ⟨#[]⟩, .string ⟨#[]⟩], .int .i64 3]) (by simp [results, Tryz.results43, go_sem, d0, d1]) rfl ?_
    exact ⟨rfl, below_set2 hb (Nat.le_refl _) _ _⟩

set_option maxHeartbeats 1000000 in
set_option maxRecDepth 100000 in
/-- the text is this -/
theorem fparse_ok (s a b0 b n d : List UInt8) (sl : Bool) (e1 e2 : Int) (w : World) (hG : Glob w) (hs : s.length ≤ 65536) (hbt : sl = true → b = b0) (hbf : sl = false → b = [49])
    (cC : Ret 72 #[.string ⟨s.toArray⟩, .string ⟨#[47]⟩] (.tuple #[.string ⟨a.toArray⟩, .string ⟨b0.toArray⟩, .bool sl]))
    (c1 : Ret 73 #[.string ⟨a.toArray⟩] (.tuple #[.string ⟨n.toArray⟩, .int .i64 e1])) (c2 : Ret 73 #[.string ⟨b.toArray⟩] (.tuple #[.string ⟨d.toArray⟩, .int .i64 e2]))
    (z : Int) (h1' : (e1 != 0) = false) (h2' : (e2 != 0) = false) (c3 : Ret 41 #[.string ⟨d.toArray⟩, .string ⟨#[]⟩] (.int .i64 z)) (h3' : decide (z ≤ 0) = false) (N D t : List UInt8)
    (c4 : Ret 51 #[.string ⟨n.toArray⟩, .string ⟨d.toArray⟩] (Value.agg #[Value.string ⟨List.toArray N⟩, Value.string ⟨List.toArray D⟩])) (c5 : Ret 45 #[(Value.agg #[Value.string ⟨List.toArray N⟩, Value.string ⟨List.toArray D⟩])] (.string ⟨t.toArray⟩)) (h4 : (t == s) = true) :
    Calls Tryz.prog 43 #[.string ⟨s.toArray⟩] w fun e w' => e = .returned (.tuple #[.agg #[.string ⟨N.toArray⟩, .string ⟨D.toArray⟩], .int .i64 0]) ∧ Below w.heap.size w w' := by
  have k0 : ¬ 65536 < s.length := by omega
  have k0' : decide (65536 < s.length) = false := decide_eq_false k0
  clear hs
  cases sl
  all_goals
    first | obtain rfl := hbf rfl | obtain rfl := hbt rfl
    clear hbt hbf
    have hb := below_alloc w (.cells #[.string ⟨#[]⟩, .string ⟨#[]⟩] 24)
    have x2 := FBox.new w (.string ⟨#[]⟩) (.string ⟨#[]⟩) 24
    go_enter Tryz.func43, Tryz.ntmps43
    go_wp2_with fail
    ((with_reducible refine (cC.of hG hb).mono ?_); rintro e w1 ⟨rfl, hb1⟩)
    replace x2 := x2.below hb1
    replace hb := bto hb hb1
    go_wp2_with fail
    ((with_reducible refine (c1.of hG hb).mono ?_); rintro e w2 ⟨rfl, hb2⟩)
    replace x2 := x2.below hb2
    replace hb := bto hb hb2
    go_wp2_with fail
    ((with_reducible refine (c2.of hG hb).mono ?_); rintro e w3 ⟨rfl, hb3⟩)
    replace x2 := x2.below hb3
    replace hb := bto hb hb3
    clear hb1 hb2 hb3
    go_wp2_with fail
    ((with_reducible refine (c3.of hG hb).mono ?_); rintro e w4 ⟨rfl, hb4⟩)
    replace x2 := x2.below hb4
    replace hb := bto hb hb4
    go_wp2_with fail
    ((with_reducible refine (c4.of hG hb).mono ?_); rintro e w5 ⟨rfl, hb5⟩)
    replace x2 := x2.below hb5
    replace hb := bto hb hb5
    replace x2 := x2.below (below_alloc w5 (.cells #[.string ⟨N.toArray⟩, .string ⟨D.toArray⟩] 24))
    replace hb := bto hb (below_alloc w5 (.cells #[.string ⟨N.toArray⟩, .string ⟨D.toArray⟩] 24))
    have x11 := FBox.new w5 (.string ⟨N.toArray⟩) (.string ⟨D.toArray⟩) 24
    have g0 := x11.c0
    have g1 := x11.c1
    go_wp2_with fail
    ((with_reducible refine (c5.of hG hb).mono ?_); rintro e w6 ⟨rfl, hb6⟩)
    replace x2 := x2.below hb6
    replace hb := bto hb hb6
    clear g0 g1
    replace x11 := x11.below hb6
    have g0 := x11.c0
    have g1 := x11.c1
    have f0 := x2.f0
    have f1 := x2.f1
    have c0 := x2.c0
    have c1 := x2.c1
    go_wp2_with fail
    have hy := x2.set (.string ⟨N.toArray⟩) (.string ⟨D.toArray⟩)
    have d0 := hy.c0
    have d1 := hy.c1
    refine bodyPost_ret (v := .tuple #[.agg #[.string ⟨N.toArray⟩, .string ⟨D.toArray⟩], .int .i64 0]) (by simp [results, Tryz.results43, go_sem, d0, d1]) rfl ?_
    exact ⟨rfl, below_set2 hb (Nat.le_refl _) _ _⟩

set_option maxHeartbeats 1000000 in
set_option maxRecDepth 100000 in
theorem fparse_long (s : List UInt8) (w : World) (h : 65536 < s.length) :
    Calls Tryz.prog 43 #[.string ⟨s.toArray⟩] w fun e w' => e = .returned (.tuple #[.agg #[.string ⟨#[]⟩, .string ⟨#[]⟩], .int .i64 4]) ∧ Below w.heap.size w w' := by
  have k0' : decide (65536 < s.length) = true := decide_eq_true h
  have hb := below_alloc w (.cells #[.string ⟨#[]⟩, .string ⟨#[]⟩] 24)
  go_enter Tryz.func43, Tryz.ntmps43
  go_wp2_with fail
  refine bodyPost_ret (v := .tuple #[.agg #[.string ⟨#[]⟩, .string ⟨#[]⟩], .int .i64 4]) (by simp [results, Tryz.results43, go_sem]) rfl ?_
  exact ⟨rfl, hb⟩

theorem bd_parse (s : List UInt8) (K : Nat) (hK : s.length + 3 ≤ K) (h0 : 0 < val (parseI (belowOf s)).1) : Bd K (Rat.divInt (val (parseI (Lib.cut s [47]).1).1) (val (parseI (belowOf s)).1)) := by
  have h1 := parseI_len (Lib.cut s [47]).1
  have h2 := parseI_len (belowOf s)
  have h3 := (cut47_len s).1
  have h4 := belowOf_len s
  exact bd_divInt (val_lt_of (by omega)) (val_lt_of (by omega)) (by omega)
theorem cut_lens {s : List UInt8} (hs : s.length ≤ 65536) : (Lib.cut s [47]).1.length ≤ 1000000 ∧ (belowOf s).length ≤ 1000000 ∧ (parseI (Lib.cut s [47]).1).1.length ≤ 1000000 ∧ (parseI (belowOf s)).1.length ≤ 1000000 := by
  have h1 := parseI_len (Lib.cut s [47]).1
  have h2 := parseI_len (belowOf s)
  have h3 := (cut47_len s).1
  have h4 := belowOf_len s
  omega
theorem bne_of {a b : Int} (h : (a == b) = true) : (a != b) = false := by simp [bne, h]
theorem bne_of' {a b : Int} (h : (a == b) = false) : (a != b) = true := by simp [bne, h]
theorem bnel_of {a b : List UInt8} (h : (a == b) = true) : (a != b) = false := by simp [bne, h]
theorem bnel_of' {a b : List UInt8} (h : (a == b) = false) : (a != b) = true := by simp [bne, h]
theorem rParse_some {s : List UInt8} {q : Rat} (hs : s.length ≤ 65536) (h : parseF s = some q) : Ret 43 #[.string ⟨s.toArray⟩] (.tuple #[(Value.agg #[Value.string ⟨List.toArray (fN q)⟩, Value.string ⟨List.toArray (fD q)⟩]), .int .i64 0]) := fun w hG => by
  unfold parseF at h
  split at h
  · next hc =>
    obtain ⟨h1, h2, h3, h4⟩ := hc
    injection h with h
    obtain ⟨l1, l2, l3, l4⟩ := cut_lens hs
    have bd := bd_parse s 70000 (by omega) h3
    have cz := riCompare (l := (parseI (belowOf s)).1) (l' := []) (c := 1) (Nat.le_trans l4 (by decide)) (by decide) (by rw [cmp0, if_neg (by omega), if_pos h3])
    have cm := rMade l3 l4 (by omega)
    have cp := rPrint (isq_fr bd (by omega))
    rw [h] at cm cp h4
    have b1 : ((parseI (Lib.cut s [47]).1).2 == 0) = true := by rw [beq_iff_eq]; exact h1
    have b2 : ((parseI (belowOf s)).2 == 0) = true := by rw [beq_iff_eq]; exact h2
    have b3 : (printQ q == s) = true := by rw [beq_iff_eq]; exact h4
    exact fparse_ok s _ _ (belowOf s) _ _ _ _ _ w hG hs (belowOf_t s) (belowOf_f s) (rCut s (by omega)) (riParse _ l1) (riParse _ l2) 1 (bne_of b1) (bne_of b2) cz rfl _ _ _ cm cp b3
  · cases h
theorem rParse_none {s : List UInt8} (hs : s.length ≤ 65536) (h : parseF s = none) : Ret 43 #[.string ⟨s.toArray⟩] (.tuple #[.agg #[.string ⟨#[]⟩, .string ⟨#[]⟩], .int .i64 3]) := fun w hG => by
  unfold parseF at h
  split at h
  · cases h
  · next hc =>
    obtain ⟨l1, l2, l3, l4⟩ := cut_lens hs
    by_cases h1 : (parseI (Lib.cut s [47]).1).2 = 0
    · have b1 : ((parseI (Lib.cut s [47]).1).2 == 0) = true := by rw [beq_iff_eq]; exact h1
      by_cases h2 : (parseI (belowOf s)).2 = 0
      · have b2 : ((parseI (belowOf s)).2 == 0) = true := by rw [beq_iff_eq]; exact h2
        obtain ⟨z, hz⟩ : ∃ z, cmpZ (val (parseI (belowOf s)).1) (val []) = z := ⟨_, rfl⟩
        have cz := riCompare (l := (parseI (belowOf s)).1) (l' := []) (Nat.le_trans l4 (by decide)) (by decide) hz
        by_cases h3 : 0 < val (parseI (belowOf s)).1
        · have hz1 : z = 1 := by rw [← hz, cmp0, if_neg (by omega), if_pos h3]
          have bd := bd_parse s 70000 (by omega) h3
          have cm := rMade l3 l4 (by omega)
          have cp := rPrint (isq_fr bd (by omega))
          have b3 : (printQ (Rat.divInt (val (parseI (Lib.cut s [47]).1).1) (val (parseI (belowOf s)).1)) == s) = false := by
            rw [beq_eq_false_iff_ne]; exact fun e => hc ⟨h1, h2, h3, e⟩
          exact fparse_no s _ _ (belowOf s) _ _ _ _ _ w hG hs (belowOf_t s) (belowOf_f s) (rCut s (by omega)) (riParse _ l1) (riParse _ l2) z (bne_of b1) (bne_of b2) cz (decide_eq_false (by omega)) _ _ _ cm cp b3
        · have hz1 : z ≤ 0 := by rw [← hz, cmp0]; split <;> (try split) <;> omega
          exact fparse_d s _ _ (belowOf s) _ _ _ _ _ w hG hs (belowOf_t s) (belowOf_f s) (rCut s (by omega)) (riParse _ l1) (riParse _ l2) z (bne_of b1) (bne_of b2) cz hz1
      · have b2 : ((parseI (belowOf s)).2 == 0) = false := by rw [beq_eq_false_iff_ne]; exact h2
        exact fparse_e2 s _ _ (belowOf s) _ _ _ _ _ w hG hs (belowOf_t s) (belowOf_f s) (rCut s (by omega)) (riParse _ l1) (riParse _ l2) (bne_of b1) (bne_of' b2)
    · have b1 : ((parseI (Lib.cut s [47]).1).2 == 0) = false := by rw [beq_eq_false_iff_ne]; exact h1
      exact fparse_e1 s _ _ (belowOf s) _ _ _ _ _ w hG hs (belowOf_t s) (belowOf_f s) (rCut s (by omega)) (riParse _ l1) (riParse _ l2) (bne_of' b1)

end Go.Proofs.YtjhafnnfkaejgaaGreatDoor
