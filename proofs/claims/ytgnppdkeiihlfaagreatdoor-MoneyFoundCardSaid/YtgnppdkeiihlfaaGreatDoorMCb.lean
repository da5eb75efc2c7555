/- Cb: refi refj refk refl refm refn refo -/
import Derived.Test.YtgnppdkeiihlfaaGreatDoorMCa
import Derived.Deep.RegionHeld3
/- trancheref01: add, Add, Sub, Mul. -/
namespace Go.Proofs.YtgnppdkeiihlfaaGreatDoor
open Go.RowKit Num

/-- a number's value -/
def sv (neg : Bool) (m : Nat) : Int := if neg then -(m : Int) else m
end Go.Proofs.YtgnppdkeiihlfaaGreatDoor
/- trancheref01: Add, Sub, Mul. -/
namespace Go.Proofs.YtgnppdkeiihlfaaGreatDoor
open Go.RowKit Num

section
variable {l l' : List UInt8}
end
end Go.Proofs.YtgnppdkeiihlfaaGreatDoor
/- trancheref01: Sub, Mul. -/
namespace Go.Proofs.YtgnppdkeiihlfaaGreatDoor
open Go.RowKit Num

section
variable {l l' : List UInt8}
end
end Go.Proofs.YtgnppdkeiihlfaaGreatDoor
/- trancheref01: divide. -/
namespace Go.Proofs.YtgnppdkeiihlfaaGreatDoor
open Go.RowKit Num

def LongAt (l Q : List Nat) (k r b : Nat) : Prop := Q.length = l.length ∧ small Q ∧ r < b ∧ gv (l.drop k) = gv (Q.drop k) * b + r
theorem LongAt.step {l Q : List Nat} {i r b x : Nat} (h : LongAt l Q (i + 1) r b) (hx : l[i]? = some x) (hxb : x < BASE) :
    LongAt l (Q.set i ((x + BASE * r) / b)) i ((x + BASE * r) % b) b ∧ (x + BASE * r) / b < BASE := by
  obtain ⟨h1, h2, h3, h4⟩ := h
  obtain ⟨hi, rfl⟩ := List.getElem?_eq_some_iff.1 hx
  have hlt : (l[i] + BASE * r) / b < BASE := by
    apply Nat.div_lt_of_lt_mul
    have : BASE * (r + 1) ≤ BASE * b := Nat.mul_le_mul_left _ h3
    rw [Nat.mul_add, Nat.mul_one] at this
    rw [Nat.mul_comm b BASE]
    omega
  refine ⟨⟨by simp [h1], small_set h2 hlt, Nat.mod_lt _ (by omega), ?_⟩, hlt⟩
  have hq : i < (Q.set i ((l[i] + BASE * r) / b)).length := by simp; omega
  have e1 : (Q.set i ((l[i] + BASE * r) / b)).drop (i + 1) = Q.drop (i + 1) := List.drop_set_of_lt (by omega)
  rw [gv_drop l i hi, gv_drop _ i hq, h4, e1, List.getElem_set_self, Nat.add_mul]
  have h5 := Nat.div_add_mod (l[i] + BASE * r) b
  rw [Nat.mul_comm b] at h5
  rw [Nat.mul_add, ← Nat.mul_assoc]
  generalize (l[i] + BASE * r) / b = q at *
  omega
theorem LongAt.fin {l Q : List Nat} {r b a : Nat} (h : LongAt l Q 0 r b) (ha : gv l = a) : gv Q = a / b ∧ r = a % b := by
  obtain ⟨h1, h2, h3, h4⟩ := h
  rw [List.drop_zero, List.drop_zero, ha] at h4
  constructor
  · rw [h4, Nat.add_comm, Nat.add_mul_div_right _ _ (by omega), Nat.div_eq_of_lt h3, Nat.zero_add]
  · rw [h4, Nat.add_comm, Nat.add_mul_mod_self_right, Nat.mod_eq_of_lt h3]
end Go.Proofs.YtgnppdkeiihlfaaGreatDoor
/- trancheref01: Div, the short road. -/
namespace Go.Proofs.YtgnppdkeiihlfaaGreatDoor
open Go.RowKit Num

end Go.Proofs.YtgnppdkeiihlfaaGreatDoor
/- trancheref01: Div, the long road. -/
namespace Go.Proofs.YtgnppdkeiihlfaaGreatDoor
open Go.RowKit Num

end Go.Proofs.YtgnppdkeiihlfaaGreatDoor
/- trancheref01: Div as a whole, Gcd. -/
namespace Go.Proofs.YtgnppdkeiihlfaaGreatDoor
open Go.RowKit Num

section
variable {l l' : List UInt8}
end
section
variable {l l' : List UInt8}
end
end Go.Proofs.YtgnppdkeiihlfaaGreatDoor
