/- (magnitude).divide: the two short ways. -/
import Derived.Test.YtjhafnnfkaejgaaGreatDoorTimes
namespace Go.Proofs.YtjhafnnfkaejgaaGreatDoor
open Go.RowKit Num

theorem below_drewN (w : World) (k : Nat) : Below w.heap.size w (w.drewN k) := bdrewN (Below.refl _ _) k
theorem mag_nil (w : World) (base : Nat) : Mag w base (.slice none 0 0) 0 := World.ownsRow_nil _ _ _ _
theorem cmp_lt {a b : Nat} (h : a < b) : decide (cmpG a b < 0) = true := decide_eq_true ((cmpG_neg a b).2 h)
theorem cmp_ge {a b : Nat} (h : b ≤ a) : decide (cmpG a b < 0) = false := decide_eq_false (fun h1 => by have := (cmpG_neg a b).1 h1; omega)

theorem single_var (A : Option Addr) (n c : Nat) (m d : Nat) (w : World) (base : Nat) (h : w.ownsRow base 95 1 (.slice A n c) n (U (grp m))) (hn : n ≤ 1000000000) (hd0 : 1 ≤ d) (hd1 : d ≤ 1000000000) :
    Calls Tryz.prog 110 #[.slice A n c, .int .u64 (d : Int)] w fun e w' => ∃ (v : Value) (r : Nat), e = .returned (.tuple #[v, .int .u64 (r : Int)]) ∧ Hid (r = m % d) ∧ Mag w' w.heap.size v (m / d) ∧ Below w.heap.size w w' :=
  (single_any A n c m d w base h hn hd0 hd1).mono fun _ _ ⟨v, he, h1, h2⟩ => ⟨v, m % d, he, rfl, h1, h2⟩
/-- what divide returns -/
def Divided (w : World) (x y : Nat) (e : Ending) (w' : World) : Prop := ∃ q r, e = .returned (.tuple #[q, r]) ∧ Mag w' 0 q (x / y) ∧ Mag w' 0 r (x % y) ∧ Below w.heap.size w w'

set_option maxHeartbeats 2000000 in
set_option maxRecDepth 100000 in
theorem divide_lt (A A' : Option Addr) (n c n' c' : Nat) (x y : Nat) (w : World) (base base' : Nat) (h : w.ownsRow base 95 1 (.slice A n c) n (U (grp x))) (h' : w.ownsRow base' 95 1 (.slice A' n' c') n' (U (grp y)))
    (hxy : x < y) :
    Calls Tryz.prog 85 #[.slice A n c, .slice A' n' c'] w (Divided w x y) := by
  have hlt := cmp_lt hxy
  have hlt2 : cmpG x y < 0 := (cmpG_neg x y).2 hxy
  go_enter Tryz.func85, Tryz.ntmps85
  go_wp2_with (go_at_call 71; refine (compare_any A A' n c n' c' x y _ base base' h h').mono ?_; rintro e w1 ⟨rfl, k, rfl⟩)
  go_ret2
  refine ⟨_, _, rfl, ?_, ?_, below_drewN w k⟩
  · rw [Nat.div_eq_of_lt hxy]; exact mag_nil _ _
  · rw [Nat.mod_eq_of_lt hxy]; exact mag_of (own_base (own_below h (below_drewN w k)) (Nat.zero_le _)) rfl

theorem own_one (w : World) (r : Nat) : (w.alloc (.cells #[.int .u64 (r : Int)] 95)).ownsRow 0 95 1 (.slice (some ⟨w.heap.size, 0, none⟩) 1 1) 1 (U [r]) :=
  World.ownsRow_lit w _ 1 (Nat.zero_le _) (by unfold maxLen; omega) rfl
theorem cut_one (r : Nat) (hr : r < BASE) : cutZ [r] = grp r := by
  rw [cutZ_eq [r] (fun z hz => by simp at hz; omega)]; simp [gv]

set_option maxHeartbeats 2000000 in
set_option maxRecDepth 100000 in
theorem divide_one (A A' : Option Addr) (n c c' : Nat) (x y : Nat) (w : World) (base base' : Nat) (h : w.ownsRow base 95 1 (.slice A n c) n (U (grp x))) (h' : w.ownsRow base' 95 1 (.slice A' 1 c') 1 (U (grp y)))
    (hxy : y ≤ x) (hn : n ≤ 1000000000) :
    Calls Tryz.prog 85 #[.slice A n c, .slice A' 1 c'] w (Divided w x y) := by
  have hge := cmp_ge hxy
  have hge2 : ¬ cmpG x y < 0 := fun h1 => by have := (cmpG_neg x y).1 h1; omega
  have hly := own_len h'
  obtain ⟨g, y0, rfl, hy0, _, hgl, hcell, _⟩ := own_at h' (k := 0) (by omega)
  have hyb : y0 < 1000000000 := grp_small y y0 (List.mem_of_getElem? hy0)
  have hyy : y0 = y := by
    have h1 := gv_grp y
    match hg : grp y, hly with
    | [a], _ => rw [hg] at h1 hy0; simp [gv] at h1 hy0; omega
  subst hyy
  have hy1 : 1 ≤ y0 := by
    rcases Nat.eq_zero_or_pos y0 with h1 | h1
    · subst h1; rw [grp_zero] at hly; simp at hly
    · exact h1
  have HH := Lib.hid h
  have HH' := Lib.hid h'
  clear h h' hly hy0
  go_enter Tryz.func85, Tryz.ntmps85
  go_wp2_with (first
    | (go_at_call 71; refine (compare_any A _ n c 1 c' x y0 _ base base' HH.out HH'.out).mono ?_; rintro e w1 ⟨rfl, k, rfl⟩)
    | (go_at_call 110; refine (single_var A n c x y0 _ base (own_below HH.out (below_drewN w k)) hn hy1 (by omega)).mono ?_; rintro e w2 ⟨v, r, rfl, HR, hm, hb2⟩; obtain ⟨Aq, cq, rfl⟩ := hm.form))
  have hrb : r < 1000000000 := by rw [HR.out]; exact Nat.lt_trans (Nat.mod_lt _ (by omega)) hyb
  refine (cut_any _ 1 1 [r] _ 0 (own_one w2 r)).mono ?_
  rintro e w3 ⟨rfl, rfl⟩
  go_wp2_with fail
  go_ret2
  have hb3 := (Below.refl w2.heap.size w2).alloc (Nat.le_refl _) (.cells #[.int .u64 (r : Int)] 95)
  refine ⟨_, _, rfl, (hm.below hb3).base (Nat.zero_le _), ?_, bto (bto (below_drewN w k) hb2) hb3⟩
  rw [← HR.out]
  exact mag_of (own_cut (own_one w2 r)) (cut_one r hrb)
end Go.Proofs.YtjhafnnfkaejgaaGreatDoor
