/- (magnitude).cut and (magnitude).compare. -/
import Derived.Test.YtjhafnnfkaejgaaGreatDoorMag
namespace Go.Proofs.YtjhafnnfkaejgaaGreatDoor
open Go.RowKit Num

theorem cutZ_take_succ {l : List Nat} {k : Nat} (h : l[k]? = some 0) : cutZ (l.take (k + 1)) = cutZ (l.take k) := by
  obtain ⟨hk, he⟩ := List.getElem?_eq_some_iff.1 h
  rw [List.take_succ_eq_append_getElem hk, he, cutZ_snoc_zero]
theorem cutZ_take_ne {l : List Nat} {k x : Nat} (h : l[k]? = some x) (hx : x ≠ 0) : (cutZ (l.take (k + 1))).length = k + 1 := by
  obtain ⟨hk, he⟩ := List.getElem?_eq_some_iff.1 h
  rw [List.take_succ_eq_append_getElem hk, he, cutZ_snoc _ _ hx]; simp; omega

set_option maxHeartbeats 400000 in
theorem cut_any (A : Option Addr) (n c : Nat) (l : List Nat) (w : World) (base : Nat) (h : w.ownsRow base 95 1 (.slice A n c) n (U l)) :
    Calls Tryz.prog 99 #[.slice A n c] w fun e w' => e = .returned (.slice A (cutZ l).length c) ∧ w = w' := by
  have hl := own_len h
  obtain ⟨hc1, hc2⟩ := own_cap h
  unfold maxLen at hc2
  have h0 : cutZ (l.take n) = cutZ l := by rw [List.take_of_length_le (by omega)]
  have H0 := Lib.hid h0; clear h0
  have HL := Lib.hid hl; clear hl
  go_enter Tryz.func99, Tryz.ntmps99
  go_wp2
  go_loop [0] (fun v => ∃ k : Nat, k ≤ n ∧ Hid (cutZ (l.take k) = cutZ l) ∧ v = .slice A k c) (fun v => sLen v)
  case atStart => exact ⟨n, Nat.le_refl _, H0, rfl⟩
  case round =>
    obtain ⟨k, hk, HZ, rfl⟩ := hrel
    by_cases hk0 : k = 0
    · subst hk0
      go_wp2
      go_ret
      have := HZ.out
      simp [cutZ_nil] at this
      exact ⟨by rw [this]; rfl, rfl⟩
    · obtain ⟨j, rfl⟩ : ∃ j, k = j + 1 := ⟨k - 1, by omega⟩
      obtain ⟨g, x, rfl, hx, hg, hgl, hcell, hfr⟩ := own_at h (k := j) (by omega)
      have HX := Lib.hid hx; clear hx
      clear h
      by_cases hx0 : x = 0
      · subst hx0
        go_wp2
        go_round
        case rel => exact ⟨j, by omega, by rw [← cutZ_take_succ HX.out]; exact HZ, by go_num⟩
        case measure => simp
      · have hxb : ((x : Int) == 0) = false := by simp; omega
        go_wp2
        go_ret
        have := HZ.out
        exact ⟨by rw [← this, cutZ_take_ne HX.out hx0]; rfl, rfl⟩

def cmpG (m n : Nat) : Int := if (grp m).length = (grp n).length then (if m < n then -1 else if n < m then 1 else 0) else ((grp m).length : Int) - (grp n).length
theorem cmpG_neg (m n : Nat) : cmpG m n < 0 ↔ m < n := by
  unfold cmpG
  split
  · split
    · simp_all
    · split <;> simp_all
  · rename_i h
    constructor
    · intro h1; exact grp_len_lt m n (by omega)
    · intro h1; have := grp_len_mono m n (by omega); omega
theorem cmpG_pos (m n : Nat) : 0 < cmpG m n ↔ n < m := by
  unfold cmpG
  split
  · split
    · simp; omega
    · split <;> simp_all
  · rename_i h
    constructor
    · intro h1; exact grp_len_lt n m (by omega)
    · intro h1; have := grp_len_mono n m (by omega); omega
theorem cmpG_diff {m n : Nat} (h : (grp m).length ≠ (grp n).length) : cmpG m n = ((grp m).length : Int) - (grp n).length := by unfold cmpG; rw [if_neg h]
theorem cmpG_same {m n : Nat} (hl : (grp m).length = (grp n).length) (h : (grp m).drop 0 = (grp n).drop 0) : cmpG m n = 0 := by
  simp only [List.drop_zero] at h
  obtain rfl := grp_inj h
  simp [cmpG]
theorem cmpG_lt {m n k x y : Nat} (hl : (grp m).length = (grp n).length) (h : (grp m).drop (k + 1) = (grp n).drop (k + 1)) (hx : (grp m)[k]? = some x) (hy : (grp n)[k]? = some y) (hlt : x < y) : cmpG m n = -1 := by
  obtain ⟨h1, ex⟩ := List.getElem?_eq_some_iff.1 hx
  obtain ⟨h2, ey⟩ := List.getElem?_eq_some_iff.1 hy
  have a1 := gv_split (grp m) k (by omega)
  have a2 := gv_split (grp n) k (by omega)
  rw [gv_drop _ _ h1, ex] at a1
  rw [gv_drop _ _ h2, ey, ← h] at a2
  rw [gv_grp] at a1 a2
  have b1 := gv_lt _ (small_take (grp_small m) k)
  rw [List.length_take, Nat.min_eq_left (by omega)] at b1
  have c1 : BASE ^ k * (x + BASE * gv ((grp m).drop (k + 1)) + 1) ≤ BASE ^ k * (y + BASE * gv ((grp m).drop (k + 1))) := Nat.mul_le_mul_left _ (by omega)
  rw [Nat.mul_add _ _ 1] at c1
  have : m < n := by omega
  simp [cmpG, hl, this]
theorem cmpG_gt {m n k x y : Nat} (hl : (grp m).length = (grp n).length) (h : (grp m).drop (k + 1) = (grp n).drop (k + 1)) (hx : (grp m)[k]? = some x) (hy : (grp n)[k]? = some y) (hlt : y < x) : cmpG m n = 1 := by
  have := cmpG_lt hl.symm h.symm hy hx hlt
  have h1 := (cmpG_neg n m).1 (by omega)
  unfold cmpG
  rw [if_pos hl, if_neg (by omega), if_pos h1]
theorem drop_eq_step {m n k x : Nat} (h : (grp m).drop (k + 1) = (grp n).drop (k + 1)) (hx : (grp m)[k]? = some x) (hy : (grp n)[k]? = some x) : (grp m).drop k = (grp n).drop k := by
  obtain ⟨h1, ex⟩ := List.getElem?_eq_some_iff.1 hx
  obtain ⟨h2, ey⟩ := List.getElem?_eq_some_iff.1 hy
  rw [List.drop_eq_getElem_cons h1, List.drop_eq_getElem_cons h2, ex, ey, h]
theorem ret_int {k : IntKind} {a b : Int} (h : a = b) : Ending.returned (.int k a) = .returned (.int k b) := by rw [h]

set_option maxHeartbeats 1000000 in
theorem compare_any (A A' : Option Addr) (n c n' c' : Nat) (a b : Nat) (w : World) (base base' : Nat) (h : w.ownsRow base 95 1 (.slice A n c) n (U (grp a))) (h' : w.ownsRow base' 95 1 (.slice A' n' c') n' (U (grp b))) :
    Calls Tryz.prog 71 #[.slice A n c, .slice A' n' c'] w fun e w' => e = .returned (.int .i64 (cmpG a b)) ∧ ∃ k, w' = w.drewN k := by
  have hl := own_len h
  have hl' := own_len h'
  obtain ⟨hc1, hc2⟩ := own_cap h
  obtain ⟨hc1', hc2'⟩ := own_cap h'
  unfold maxLen at hc2 hc2'
  have HL := Lib.hid hl; clear hl
  have HL' := Lib.hid hl'; clear hl'
  by_cases hne : n = n'
  · subst hne
    have HE := Lib.hid (HL.out.trans HL'.out.symm)
    go_enter Tryz.func71, Tryz.ntmps71
    go_wp2
    go_loopw [5] (fun i wr => ∃ k : Nat, k ≤ n ∧ i = .int .i64 ((k : Int) - 1) ∧ Hid ((grp a).drop k = (grp b).drop k) ∧ ∃ q, wr = w.drewN q) (fun i _ => (intOf i + 1).toNat)
    case atStart =>
      refine ⟨n, Nat.le_refl _, rfl, ?_, 0, rfl⟩
      show _ = _
      rw [List.drop_of_length_le (by rw [HL.out]; omega), List.drop_of_length_le (by rw [HL'.out]; omega)]
    case round =>
      obtain ⟨k, hk, rfl, HD, q, rfl⟩ := hrel
      by_cases hk0 : k = 0
      · subst hk0
        go_wp2
        go_ret
        exact ⟨ret_int (cmpG_same HE.out HD.out).symm, q, rfl⟩
      · obtain ⟨j, rfl⟩ : ∃ j, k = j + 1 := ⟨k - 1, by omega⟩
        obtain ⟨g, x, rfl, hx, _, _, hcell, _⟩ := own_at h (k := j) (by omega)
        obtain ⟨g', y, rfl, hy, _, _, hcell', _⟩ := own_at h' (k := j) (by omega)
        have HX := Lib.hid hx; clear hx
        have HY := Lib.hid hy; clear hy
        clear h h'
        rcases Nat.lt_trichotomy x y with hxy | hxy | hxy
        · go_wp2
          go_quiet (fail)
          go_wp2
          go_ret
          exact ⟨ret_int (cmpG_lt HE.out HD.out HX.out HY.out hxy).symm, _, World.drewN_drewN _ _ _⟩
        · subst hxy
          go_wp2
          go_quiet (fail)
          go_wp2
          go_quiet (fail)
          go_wp2
          go_roundw
          case rel => exact ⟨j, by omega, by go_num, drop_eq_step HD.out HX.out HY.out, _, rfl⟩
          case measure => simp [intOf]
        · go_wp2
          go_quiet (fail)
          go_wp2
          go_quiet (fail)
          go_wp2
          go_ret
          exact ⟨ret_int (cmpG_gt HE.out HD.out HX.out HY.out hxy).symm, _, by rw [World.drewN_drewN, World.drewN_drewN]⟩
  · have hneb : ((n : Int) != (n' : Int)) = true := by simp; omega
    have HE := Lib.hid (cmpG_diff (m := a) (n := b) (by rw [HL.out, HL'.out]; exact hne))
    go_enter Tryz.func71, Tryz.ntmps71
    go_wp2
    go_ret
    exact ⟨ret_int (by rw [HE.out, HL.out, HL'.out]), 0, rfl⟩
end Go.Proofs.YtjhafnnfkaejgaaGreatDoor
