/- Package instrument: Alive. -/
import Derived.Test.YtmjglcgdcclinaaGreatDoorIp
namespace Go.Proofs.YtmjglcgdcclinaaGreatDoor
open Go.RowKit Num
def isBad (x : Ins) : Bool := chkE x != 0
/-- the names of those that are alive -/
def aliveL (d : Int) : List Ins → List (List UInt8)
  | [] => []
  | x :: r => if stOf x d = 2 then x.id :: aliveL d r else aliveL d r
theorem aliveL_app (d : Int) : ∀ a b, aliveL d (a ++ b) = aliveL d a ++ aliveL d b
  | [], b => rfl
  | x :: a, b => by
    have ih := aliveL_app d a b
    show (if stOf x d = 2 then x.id :: aliveL d (a ++ b) else aliveL d (a ++ b)) = (if stOf x d = 2 then x.id :: aliveL d a else aliveL d a) ++ aliveL d b
    rw [ih]
    split <;> rfl
theorem aliveL_len (d : Int) : ∀ a, (aliveL d a).length ≤ a.length
  | [] => Nat.le_refl _
  | x :: a => by
    have := aliveL_len d a
    unfold aliveL
    split <;> simp <;> omega
def aliveE (xs : List Ins) (d : Int) : List (List UInt8) × Int := if xs.any isBad = true then ([], 1) else if ¬ dayB d = true then ([], 13) else (aliveL d xs, 0)
/-- a slice of strings and a number are returned -/
def StrsEnd (w : World) (r : List (List UInt8) × Int) (e : Ending) (w' : World) : Prop := ∃ A c, e = .returned (.tuple #[.slice A r.1.length c, .int .i64 r.2]) ∧ StrAt w' A r.1 ∧ Below w.heap.size w w'
theorem strAt_nil (w : World) (A : Option Addr) : StrAt w A [] := fun i s h => by simp at h
end Go.Proofs.YtmjglcgdcclinaaGreatDoor
