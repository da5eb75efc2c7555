/- Small functions of trancheref01, trancheref02. -/
import Derived.Test.YtmjglcgdcclinaaGreatDoorWa
namespace Go.Proofs.YtmjglcgdcclinaaGreatDoor
open Go.RowKit Num
section
variable {l l' : List UInt8}
theorem qCheck (hl : l.length ≤ 1000000) {c : Int} (e : (if l = canon (val l) then 0 else 1) = c) : Ret 39 #[.string ⟨l.toArray⟩] (.int .i64 c) := fun w hG => by
  have c1 := qCanonical (l := l) hl rfl
  have hb := Below.refl w.heap.size w
  obtain ⟨X, hX⟩ : ∃ X, X = canon (val l) := ⟨_, rfl⟩
  rw [← hX] at c1 e
  have H1 := Lib.hid c1
  clear c1 hX
  by_cases h : l = X
  · rw [if_pos h] at e
    subst e
    subst h
    go_enter Tryz.func39, Tryz.ntmps39
    go_wp2_with fail
    ((with_reducible refine (H1.out.of hG hb).mono ?_); rintro e w2 ⟨rfl, hb2⟩)
    go_wp2
    go_ret
    exact ⟨rfl, bto hb hb2⟩
  · rw [if_neg h] at e
    subst e
    have e1 : (X == l) = false := by rw [beq_eq_false_iff_ne]; exact fun h1 => h h1.symm
    go_enter Tryz.func39, Tryz.ntmps39
    go_wp2_with fail
    ((with_reducible refine (H1.out.of hG hb).mono ?_); rintro e w2 ⟨rfl, hb2⟩)
    go_wp2
    go_ret
    exact ⟨rfl, bto hb hb2⟩
theorem qLong {b : Bool} (e : decide (13 < l.length) = b) : Ret 38 #[.string ⟨l.toArray⟩] (.bool b) := fun w _ => by
  subst e
  have HV : Hid (decide ((13 : Int) < (l.length : Int)) = decide (13 < l.length)) := by show _ = _; rw [decide_eq_decide]; omega
  go_enter Tryz.func38, Tryz.ntmps38
  go_wp2
  go_ret
  exact ⟨retb HV.out, Below.refl _ _⟩
theorem qGreat {b : Bool} (e : decide (60 < l.length) = b) : Ret 57 #[.string ⟨l.toArray⟩] (.bool b) := fun w _ => by
  subst e
  have HV : Hid (decide ((60 : Int) < (l.length : Int)) = decide (60 < l.length)) := by show _ = _; rw [decide_eq_decide]; omega
  go_enter Tryz.func57, Tryz.ntmps57
  go_wp2
  go_ret
  exact ⟨retb HV.out, Below.refl _ _⟩
theorem qSign (hl : l.length ≤ 1000000) {c : Int} (e : cmpZ (val l) 0 = c) : Ret 40 #[.string ⟨l.toArray⟩] (.int .i64 c) := fun w hG => by
  have c1 := qCompare (l := l) (l' := []) hl (by decide) (c := c) (by rw [val_nil]; exact e)
  have hb := Below.refl w.heap.size w
  have H1 := Lib.hid c1
  clear c1 e
  go_enter Tryz.func40, Tryz.ntmps40
  go_wp2_with fail
  ((with_reducible refine (H1.out.of hG hb).mono ?_); rintro e w2 ⟨rfl, hb2⟩)
  go_wp2
  go_ret
  exact ⟨rfl, bto hb hb2⟩
theorem sSign (hl : l.length ≤ 900) (hl' : l'.length ≤ 900) {c : Int} (e : cmpQ (fv l l') 0 = c) : Ret 44 #[(Value.agg #[Value.string ⟨List.toArray l⟩, Value.string ⟨List.toArray l'⟩])] (.int .i64 c) := fun w hG => by
  have c1 := sCompare (l := l) (l' := l') (k := []) (k' := []) hl hl' (by decide) (by decide) (c := c) (by rw [show fv [] [] = 0 by decide +kernel]; exact e)
  have H1 := Lib.hid c1
  have x1 := FBox.new w (.string ⟨l.toArray⟩) (.string ⟨l'.toArray⟩) 32
  have hb := below_alloc w (.cells #[.string ⟨l.toArray⟩, .string ⟨l'.toArray⟩] 32)
  have q0 := x1.c0
  have q1 := x1.c1
  clear c1 e
  go_enter Tryz.func44, Tryz.ntmps44
  go_wp2_with fail
  ((with_reducible refine (H1.out.of hG hb).mono ?_); rintro e w2 ⟨rfl, hb2⟩)
  have hb := bto hb hb2
  go_wp2
  go_ret
  exact ⟨rfl, hb⟩
end
end Go.Proofs.YtmjglcgdcclinaaGreatDoor
