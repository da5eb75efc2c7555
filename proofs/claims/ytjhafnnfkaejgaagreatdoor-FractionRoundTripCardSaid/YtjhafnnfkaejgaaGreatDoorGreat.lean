/- trancheref02.Great. -/
import Derived.Test.YtjhafnnfkaejgaaGreatDoorAwake
namespace Go.Proofs.YtjhafnnfkaejgaaGreatDoor
open Go.RowKit Num

set_option maxHeartbeats 1000000 in
set_option maxRecDepth 100000 in
theorem great_any (g n c : Nat) (cs : Nat → List UInt8) (w : World) (hn : n ≤ 1000) (h : ∀ j, j < n * 2 → w.cell? ⟨g, j, none⟩ = some (.string ⟨(cs j).toArray⟩)) :
    Calls Tryz.prog 12 #[.slice (some ⟨g, 0, none⟩) n c] w fun e w' => ((e = .returned (.bool true) ∧ ∃ j, j < n * 2 ∧ 60 < (cs j).length) ∨ (e = .returned (.bool false) ∧ ∀ j, j < n * 2 → (cs j).length ≤ 60)) ∧ Below w.heap.size w w' := by
  go_enter Tryz.func12, Tryz.ntmps12
  go_wp2_with fail
  go_loopw [3] (fun iv wr => ∃ k : Nat, k ≤ n ∧ iv = .int .i64 (k : Int) ∧ Hid (∀ j, j < k * 2 → (cs j).length ≤ 60) ∧ wr = w) (fun iv _ => n - (intOf iv).toNat)
  case atStart => exact ⟨0, Nat.zero_le _, rfl, fun j hj => by omega, rfl⟩
  case round =>
    obtain ⟨k, hk, rfl, HK, rfl⟩ := hrel
    by_cases hkn : k < n
    · have h1 := h (k * 2) (by omega)
      have h2 := h (k * 2 + 1) (by omega)
      obtain ⟨s1, hs1⟩ : ∃ s1, s1 = cs (k * 2) := ⟨_, rfl⟩
      obtain ⟨s2, hs2⟩ : ∃ s2, s2 = cs (k * 2 + 1) := ⟨_, rfl⟩
      rw [← hs1] at h1
      rw [← hs2] at h2
      have H1 := Lib.hid hs1
      have H2 := Lib.hid hs2
      have H := Lib.hid h
      clear h hs1 hs2
      by_cases g1 : 60 < s1.length
      · go_wp2
        go_ret
        exact ⟨.inl ⟨rfl, k * 2, by omega, by rw [← H1.out]; exact g1⟩, Below.refl _ _⟩
      · by_cases g2 : 60 < s2.length
        · go_wp2
          go_ret
          exact ⟨.inl ⟨rfl, k * 2 + 1, by omega, by rw [← H2.out]; exact g2⟩, Below.refl _ _⟩
        · go_wp2
          go_roundw
          case rel =>
            refine ⟨k + 1, by omega, by go_num, fun j hj => ?_, trivial⟩
            rcases Nat.lt_or_ge j (k * 2) with h5 | h5
            · exact HK.out j h5
            · have : j = k * 2 ∨ j = k * 2 + 1 := by omega
              rcases this with rfl | rfl
              · rw [← H1.out]; omega
              · rw [← H2.out]; omega
          case measure => simp [intOf]; omega
    · obtain rfl : k = n := by omega
      go_wp2
      go_ret
      exact ⟨.inr ⟨rfl, HK.out⟩, Below.refl _ _⟩
end Go.Proofs.YtjhafnnfkaejgaaGreatDoor
