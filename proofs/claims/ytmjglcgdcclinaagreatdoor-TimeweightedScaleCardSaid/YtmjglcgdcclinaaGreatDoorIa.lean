/- Package instrument and trancheref10: names, codes, days, digits, kinds. -/
import Derived.Test.YtmjglcgdcclinaaGreatDoorBh
import Derived.Laws.IdiomStrings
namespace Go.Proofs.YtmjglcgdcclinaaGreatDoor
open Go.RowKit Num
def nameC (c : UInt8) : Bool := (decide (97 ≤ c.toNat) && decide (c.toNat ≤ 122)) || (decide (48 ≤ c.toNat) && decide (c.toNat ≤ 57)) || decide (c.toNat = 95)
def nameB (l : List UInt8) : Bool := decide (1 ≤ l.length) && decide (l.length ≤ 16) && l.all nameC
def codeC (c : UInt8) : Bool := decide (65 ≤ c.toNat) && decide (c.toNat ≤ 90)
def codeB (l : List UInt8) : Bool := decide (l.length = 3) && l.all codeC
def dayB (d : Int) : Bool := decide (-25567 ≤ d) && decide (d ≤ 84005)
def dayE (d : Int) : Int := if dayB d = true then 0 else 13
theorem bytes_conv (l : List UInt8) (w : World) : ∃ (cap : Nat) (C : Array Value), (convert 9 178 (.string ⟨l.toArray⟩)).run Tryz.prog w = .ok (.slice (some ⟨w.heap.size, 0, none⟩) l.length cap) (w.drew.alloc (.cells C 5 (C.size, C.size + 1))) ∧
    ∀ (j : Nat) (x : UInt8), l[j]? = some x → (w.alloc (.cells C 5 (C.size, C.size + 1))).cell? ⟨w.heap.size, j, none⟩ = some (.int .u8 (x.toNat : Int)) := by
  have h := run_bytes_of_string (P := Tryz.prog) w 9 178 5 ⟨l.toArray⟩ Tryz.underlying9 Tryz.underlying178 Tryz.underlying5
  have hs : (⟨l.toArray⟩ : ByteArray).size = l.length := by show l.toArray.size = _; simp
  rw [hs] at h
  refine ⟨_, _, h, fun j x hx => ?_⟩
  obtain ⟨hj, rfl⟩ := List.getElem?_eq_some_iff.1 hx
  rw [World.cell?_alloc_mark, bytesRow_at _ _ _ (by simpa using hj)]
  simp
set_option maxHeartbeats 1000000 in
theorem iCode {l : List UInt8} (hl : l.length ≤ 1000000) : Ret 135 #[.string ⟨l.toArray⟩] (.bool (codeB l)) := fun w hG => by
  by_cases h3 : l.length = 3
  · obtain ⟨cap, C, hconv, hcell⟩ := bytes_conv l w
    have HC := Lib.hid hcell
    have k1 : (((l.length : Int)) != 3) = false := by simp; omega
    have k2 : ((l.length : Int) == 3) = true := by simp; omega
    have HV : Hid (∀ b, l.all codeC = b → codeB l = b) := by intro b hb; unfold codeB; rw [hb, decide_eq_true h3, Bool.true_and]
    have hb : Below w.heap.size w (w.alloc (.cells C 5 (C.size, C.size + 1))).drew := bto (below_alloc _ _) (bdr _)
    clear hcell h3
    go_enter Tryz.func135, Tryz.ntmps135
    go_wp2_with fail
    clear hconv
    go_loop [11] (fun iv => ∃ k : Nat, k ≤ l.length ∧ iv = .int .i64 (k : Int) ∧ Hid ((l.take k).all codeC = true)) (fun iv => l.length - (intOf iv).toNat)
    case atStart => exact ⟨0, Nat.zero_le _, rfl, rfl⟩
    case round =>
      obtain ⟨k, hk, rfl, HK⟩ := hrel
      by_cases hlt : k < l.length
      · obtain ⟨x, hx⟩ : ∃ x, l[k]? = some x := ⟨_, List.getElem?_eq_getElem hlt⟩
        have hc := HC.out k x hx
        have HX := Lib.hid hx
        clear hx
        by_cases d1 : (x.toNat : Int) < 65
        · have e1 : decide ((x.toNat : Int) < 65) = true := decide_eq_true d1
          go_wp2
          go_ret
          exact ⟨retb (HV.out _ (all_no' HX.out (by unfold codeC; rw [decide_eq_false (by omega), Bool.false_and]))).symm, hb⟩
        · have e1 : decide ((x.toNat : Int) < 65) = false := decide_eq_false d1
          by_cases d2 : 90 < (x.toNat : Int)
          · have e2 : decide (90 < (x.toNat : Int)) = true := decide_eq_true d2
            go_wp2
            go_ret
            exact ⟨retb (HV.out _ (all_no' HX.out (by unfold codeC; rw [decide_eq_false (p := x.toNat ≤ 90) (by omega), Bool.and_false]))).symm, hb⟩
          · have e2 : decide (90 < (x.toNat : Int)) = false := decide_eq_false d2
            go_wp2
            go_round
            case rel => exact ⟨k + 1, by omega, by go_num, all_snoc' HK.out HX.out (by unfold codeC; rw [decide_eq_true (by omega), decide_eq_true (by omega)]; rfl)⟩
            case measure => simp [intOf]; omega
      · have HK' : Hid (l.all codeC = true) := by have := HK.out; rw [List.take_of_length_le (by omega)] at this; exact this
        go_wp2
        go_ret
        exact ⟨retb (HV.out _ HK'.out).symm, hb⟩
  · have k1 : (((l.length : Int)) != 3) = true := by simp; omega
    have k2 : ((l.length : Int) == 3) = false := by simp; omega
    have HV : Hid (codeB l = false) := by show _ = _; unfold codeB; rw [decide_eq_false h3, Bool.false_and]
    clear h3
    go_enter Tryz.func135, Tryz.ntmps135
    go_wp2
    go_ret
    exact ⟨retb (HV.out).symm, Below.refl _ _⟩
end Go.Proofs.YtmjglcgdcclinaaGreatDoor
