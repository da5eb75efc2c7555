/- (magnitude).plus. -/
import Derived.Test.YtjhafnnfkaejgaaGreatDoorText
import Derived.Deep.DeepCutAuto
namespace Go.Proofs.YtjhafnnfkaejgaaGreatDoor
open Go.RowKit Num

/-- what holds after k groups of a sum -/
def PlusAt (l l' ps : List Nat) (k c : Nat) : Prop := ps.length = k ∧ small ps ∧ gv ps + BASE ^ k * c = gv (l.take k) + gv (l'.take k)
theorem PlusAt.step {l l' ps : List Nat} {k c x t : Nat} (h : PlusAt l l' ps k c) (hx : l[k]? = some x) (y : Nat) (hy : l'[k]? = some y ∨ (l'.length ≤ k ∧ y = 0)) (ht : t = x + c + y) : PlusAt l l' (ps ++ [t % BASE]) (k + 1) (t / BASE) := by
  obtain ⟨h1, h2, h3⟩ := h
  refine ⟨by simp [h1], small_snoc h2 (Nat.mod_lt _ (by decide)), ?_⟩
  rw [gv_snoc, h1, gv_take_of hx, Nat.pow_succ, plus_step _ _ _ _ _ _ _ h3 ht]
  rcases hy with hy | ⟨hl, rfl⟩
  · rw [gv_take_of hy]; omega
  · rw [gv_take_all hl]; omega

theorem plus_fin {ps : List Nat} {x y k cy : Nat} (hs : small ps) (hl : ps.length = (grp x).length) (h : gv ps + BASE ^ k * cy = x + y) (hk : (grp x).length = k) (hcb : cy < BASE) : (if cy = 0 then ps else ps ++ [cy]) = grp (x + y) := by
  by_cases hc : cy = 0
  · subst hc
    rw [if_pos rfl]
    have h1 : gv ps = x + y := by simpa using h
    have h2 := cutZ_eq ps hs
    rw [h1] at h2
    have h3 := grp_len_mono x (x + y) (by omega)
    rw [← h2] at h3 ⊢
    have h4 := cutZ_take ps
    rw [List.take_of_length_le (by omega)] at h4
    exact h4.symm
  · rw [if_neg hc]
    rw [← h, ← hk, ← hl, ← gv_snoc, grp_of _ (small_snoc hs hcb) (by simp [norm, hc])]

set_option maxHeartbeats 2000000 in
set_option maxRecDepth 100000 in
theorem plus_any (A A' : Option Addr) (n c n' c' : Nat) (a b : Nat) (w : World) (base base' : Nat) (h : w.ownsRow base 95 1 (.slice A n c) n (U (grp a))) (h' : w.ownsRow base' 95 1 (.slice A' n' c') n' (U (grp b)))
    (hn : n ≤ 1000000000) (hn' : n' ≤ 1000000000) :
    Calls Tryz.prog 86 #[.slice A n c, .slice A' n' c'] w fun e w' => ∃ v, e = .returned v ∧ Mag w' w.heap.size v (a + b) ∧ Below w.heap.size w w' := by
  obtain ⟨i0, hi, hz0, hz1, hz2⟩ := info_parts info_u64
  go_enter Tryz.func86, Tryz.ntmps86
  go_upto_if 12 with fail
  go_cut [0, 1] (fun v0 v1 wx => w = wx ∧ ∃ (A A' : Option Addr) (n c n' c' x y base base' : Nat), v0 = .slice A n c ∧ v1 = .slice A' n' c' ∧ n' ≤ n ∧ n ≤ 1000000000 ∧ Hid (x + y = a + b) ∧ w.ownsRow base 95 1 (.slice A n c) n (U (grp x)) ∧ w.ownsRow base' 95 1 (.slice A' n' c') n' (U (grp y)))
  case first =>
    by_cases hlt : n < n'
    · go_wp2_with fail
      go_meet
      exact ⟨rfl, A', A, n', c', n, c, b, a, base', base, rfl, rfl, by omega, by omega, Nat.add_comm b a, h', h⟩
    · go_wp2_with fail
      go_meet
      exact ⟨rfl, A, A', n, c, n', c', a, b, base, base', rfl, rfl, by omega, by omega, rfl, h, h'⟩
  case rest =>
    clear h h' hn hn'
    obtain ⟨rfl, A, A', n, c, n', c', x, y, base, base', rfl, rfl, hnn, hn, HXY, h, h'⟩ := hcut
    have hmk := fun W => make_u64 68 Tryz.underlying68 n (n + 1) ((n : Int) + 1) (by omega) (by omega) (by omega) W
    have hl := own_len h
    have hl' := own_len h'
    have HL := Lib.hid hl
    have HL' := Lib.hid hl'
    have HZ := Lib.hid (zrow_row w (n + 1))
    have HB : Hid (Below w.heap.size w (w.alloc (zrow (n + 1)))) := (Below.refl _ _).alloc (Nat.le_refl _) _
    have HO := Lib.hid (own_below h HB.out)
    have HH := Lib.hid h
    have HH' := Lib.hid h'
    clear hl hl' h h'
    go_wp2_with (with_reducible refine wp_copy_row rfl (.tmp 21) (.tmp 22) 68 rfl Tryz.underlying68 A w.heap.size n c (n + 1) base (grp x) rfl rfl HO.out HZ.out (Nat.le_succ _) w.heap.size w HB.out (Nat.le_refl _) ?_; intro w2 hrow0 hb2)
    clear hmk
    go_loopw [6, 26] (fun cv i wr => ∃ (k cy : Nat) (ps : List Nat), k ≤ n ∧ i = .int .i64 k ∧ cv = .int .u64 (cy : Int) ∧ cy ≤ 1 ∧ Hid (PlusAt (grp x) (grp y) ps k cy) ∧ Row wr w.heap.size (ps ++ ((grp x).drop k ++ [0])) ∧ Below w.heap.size w wr) (fun _ i _ => n - (intOf i).toNat)
    case atStart =>
      refine ⟨0, 0, [], by omega, rfl, rfl, by omega, ⟨rfl, fun x hx => by simp at hx, by simp [gv]⟩, ?_, hb2⟩
      rw [show n + 1 - n = 1 by omega] at hrow0
      exact hrow0
    case round =>
      clear hrow0 hb2
      obtain ⟨k, cy, ps, hk, rfl, rfl, hcy, HP, hrow, hbw⟩ := hrel
      by_cases hkn : k < n
      · obtain ⟨xk, hxk⟩ : ∃ xk, (grp x)[k]? = some xk := ⟨_, List.getElem?_eq_getElem (by rw [HL.out]; exact hkn)⟩
        have hxb : xk < 1000000000 := grp_small x xk (List.mem_of_getElem? hxk)
        have hcell := hrow.cell (row_at (t := [0]) HP.out.1 hxk)
        have hfr := hrow.frozen k
        have HX := Lib.hid hxk
        have HR := Lib.hid hrow
        clear hxk hrow
        by_cases hkn' : k < n'
        · obtain ⟨g', yk, rfl, hyk, hgl, hcell'⟩ := own_at_below HH'.out hbw hkn'
          have HY := Lib.hid hyk
          have hyb : yk < 1000000000 := grp_small y yk (List.mem_of_getElem? hyk)
          have hne : ¬ g' = w.heap.size := by omega
          have hne' : ¬ w.heap.size = g' := by omega
          clear hyk
          go_wp2
          go_region
          all_goals go_wp2
          all_goals go_roundw
          case rel =>
            refine ⟨k + 1, (xk + cy + yk) / 1000000000, ps ++ [(xk + cy + yk) % 1000000000], by omega, by go_num, congrArg (Value.int .u64) (by omega), by omega, HP.out.step HX.out yk (.inl HY.out) rfl, ?_, (((hbw.setCell (p := ⟨w.heap.size, k, none⟩) (Nat.le_refl _) _).setCell (p := ⟨w.heap.size, k, none⟩) (Nat.le_refl _) _).setCell (p := ⟨w.heap.size, k, none⟩) (Nat.le_refl _) _).drew⟩
            have h1 := ((HR.out.setI k (xk + cy) (z := (xk : Int) + cy) (by omega)).setI k (xk + cy + yk) (z := (xk : Int) + cy + yk) (by omega)).setI k ((xk + cy + yk) % 1000000000) (z := ((xk : Int) + cy + yk) % 1000000000) (by omega)
            rw [List.set_set, List.set_set, row_set HP.out.1 (by rw [HL.out]; omega)] at h1
            exact h1.drew
          case measure => simp [intOf]; omega
        · go_wp2
          go_roundw
          case rel =>
            refine ⟨k + 1, (xk + cy) / 1000000000, ps ++ [(xk + cy) % 1000000000], by omega, by go_num, congrArg (Value.int .u64) (by omega), by omega, HP.out.step HX.out 0 (.inr ⟨by rw [HL'.out]; omega, rfl⟩) rfl, ?_, (hbw.setCell (p := ⟨w.heap.size, k, none⟩) (Nat.le_refl _) _).setCell (p := ⟨w.heap.size, k, none⟩) (Nat.le_refl _) _⟩
            have h1 := (HR.out.setI k (xk + cy) (z := (xk : Int) + cy) (by omega)).setI k ((xk + cy) % 1000000000) (z := ((xk : Int) + cy) % 1000000000) (by omega)
            rw [List.set_set, row_set HP.out.1 (by rw [HL.out]; omega)] at h1
            exact h1
          case measure => simp [intOf]; omega
      · obtain rfl : k = n := by omega
        have hd : (grp x).drop k = [] := List.drop_of_length_le (by rw [HL.out]; omega)
        rw [hd, List.nil_append] at hrow
        obtain ⟨hp1, hp2, hp3⟩ := HP.out
        have hown := hrow.own (base := w.heap.size) (n := k) (Nat.le_refl _) (by simp; omega) (by simp; unfold maxLen; omega)
        have e1 : (ps ++ [0]).length = k + 1 := by simp; omega
        have e2 : (ps ++ [0]).take k = ps := by rw [List.take_append_of_le_length (by omega), List.take_of_length_le (by omega)]
        rw [e1, e2] at hown
        have hgv : gv ps + BASE ^ k * cy = x + y := by
          rw [hp3, List.take_of_length_le (by rw [HL.out]; omega), List.take_of_length_le (by rw [HL'.out]; omega), gv_grp, gv_grp]
        have hfin := plus_fin (x := x) (y := y) hp2 (by rw [hp1, HL.out]) hgv (by rw [HL.out]) (by unfold BASE; omega)
        rw [HXY.out] at hfin
        have HF := Lib.hid hfin
        clear hfin hgv e1 e2 hp1 hp2 hp3 hd
        by_cases hc0 : cy = 0
        · subst hc0
          clear hi hz0 hz1 hz2 i0
          go_wp2
          go_ret
          exact ⟨_, rfl, mag_of hown HF.out, hbw⟩
        · have hz := hbw.size
          go_wp2_with (at_builtin; refine wpList_append_own _ rfl _ _ 68 rfl w.heap.size 95 i0 (.int .u64 0) 1 8 Tryz.underlying68 hi hz0 hz1 hz2 rfl (by decide) _ _ _ rfl (hown.alloc _) ⟨wr.heap.size, 0, none⟩ 1 1 [.int .u64 (cy : Int)] rfl rfl ?c1 ?c2 ?c3 ?c4 ?c5 ?_)
          case c1 => exact cell_one_new _ _ _
          case c2 => intro u hu; simp at hu; subst hu; rfl
          case c3 => unfold maxLen; omega
          case c4 => omega
          case c5 => simp; omega
          intro v' w3 hown' hgrow _
          have hb3 : Below w.heap.size w w3 := (hbw.alloc (by omega) _).grown hgrow (by simp; omega) (own_block_ge hown)
          have hmag : Mag w3 w.heap.size v' (a + b) := by
            refine mag_of (l := ps ++ [cy]) (by simpa using hown') ?_
            have := HF.out
            rwa [if_neg hc0] at this
          clear hown hown' hgrow
          go_wp2
          go_ret
          exact ⟨_, rfl, hmag, hb3⟩
end Go.Proofs.YtjhafnnfkaejgaaGreatDoor
