/- Texts put together: Ms Pw Wa Ws Mq. -/
import Derived.Test.YtgnppdkeiihlfaaGreatDoorM1
import Derived.Test.YtgnppdkeiihlfaaGreatDoorMBd
import Derived.Test.YtgnppdkeiihlfaaGreatDoorMCd
import Derived.Test.YtgnppdkeiihlfaaGreatDoorMCc
import Derived.RangeFuncBox
import Derived.OwnWalkIn
import Derived.TacticsInMore
import Derived.RegionIn
import Derived.LoopNIn
import Derived.LoopIn
namespace Go.Proofs.YtgnppdkeiihlfaaGreatDoor
open Go.RowKit Go.Shelf Num
open Go.Op (bytesLess)
attribute [local go_sem] Oper.semAt_some
/-- the length of the slice in a box -/
def lenAt (W : World) (b : Nat) : Nat := match W.cell? ⟨b, 0, none⟩ with | some (.slice _ n _) => n | _ => 0
theorem lenAt_eq {W : World} {b : Nat} {A : Option Addr} {n c : Nat} (h : Boxed W b 42 (.slice A n c)) : lenAt W b = n := by unfold lenAt; rw [h.cell]
section
variable {w W W' : World} {b b' i : Nat} {t : TypeId} {u v x : Value}
theorem bx_below (h : Boxed W b t v) (hb : Below W.heap.size W W') : Boxed W' b t v := (hb.block b h.lt).trans h
theorem bx_far (h : Boxed W b t v) (hn : b ≠ b') : Boxed (W.setCell ⟨b', i, none⟩ u) b t v := (Below.heap_setCell W ⟨b', i, none⟩ u b hn).trans h
end
/-- the rest of a list of amounts, in memory -/
structure RL (w : World) (A : Option Addr) (X : List Mon) (n : Nat) : Prop where
  len : X.length = n
  str : ∀ t ∈ X, t.cur.length ≤ 1000 ∧ t.amt.length ≤ 1000
  mem : MonAt w A X
theorem RL.next {w : World} {b o n c : Nat} {x : Mon} {r : List Mon} (h : RL w (some ⟨b, o, none⟩) (x :: r) n) (hc : n ≤ c) : RL w (if c = 1 then some ⟨b, o, none⟩ else some ⟨b, o + 2, none⟩) r (n - 1) := by
  have hl := h.len
  rw [List.length_cons] at hl
  refine ⟨by omega, fun t ht => h.str t (List.mem_cons_of_mem _ ht), ?_⟩
  by_cases h1 : c = 1
  · have : r = [] := List.eq_nil_of_length_eq_zero (by omega)
    subst this
    intro i t ht; simp at ht
  · rw [if_neg h1]
    intro i t ht
    obtain ⟨b', o', hA, h2, h3, h4⟩ := h.mem (i + 1) t (by simpa using ht)
    cases hA
    exact ⟨b, o + 2, rfl, h2, by rw [show o + 2 + i * 2 = o + (i + 1) * 2 by omega]; exact h3, by rw [show o + 2 + i * 2 + 1 = o + (i + 1) * 2 + 1 by omega]; exact h4⟩
theorem RL.below {w w' : World} {A : Option Addr} {X : List Mon} {n : Nat} (h : RL w A X n) (hb : Below w.heap.size w w') : RL w' A X n := ⟨h.len, h.str, h.mem.below hb⟩
theorem RL.head {w : World} {A : Option Addr} {n : Nat} {x : Mon} {r : List Mon} (h : RL w A (x :: r) n) : ∃ b o, A = some ⟨b, o, none⟩ ∧ b < w.heap.size ∧ w.cell? ⟨b, o, none⟩ = some (.string ⟨x.cur.toArray⟩) ∧ w.cell? ⟨b, o + 1, none⟩ = some (.string ⟨x.amt.toArray⟩) := by
  obtain ⟨b, o, h0, h1, h2, h3⟩ := h.mem 0 x rfl
  exact ⟨b, o, h0, h1, by simpa using h2, by simpa using h3⟩
theorem grownBy_setCell2 (W : World) (b i : Nat) (v : Value) : W.grownBy (W.setCell ⟨b, i, none⟩ v) (some b) :=
  ⟨rfl, rfl, rfl, (KeepsWalks.setCell W _ v).size, fun k _ hk => Below.heap_setCell _ _ _ k (fun e => hk (by rw [e]))⟩
theorem below_drw (W : World) : Below W.heap.size W W.drew := ⟨rfl, rfl, rfl, Nat.le_refl _, fun _ _ => rfl⟩
theorem set_cells {W : World} {b j : Nat} {cs : Array Value} {t : TypeId} (x : Value) (h : W.heap[b]? = some (.cells cs t (0, 0))) : (W.setCell ⟨b, j, none⟩ x).heap[b]? = some (.cells (cs.setIfInBounds j x) t (0, 0)) := (turnedC W b j cs x t h).new
set_option maxHeartbeats 8000000 in
set_option maxRecDepth 100000 in
theorem both1_in (m lw ab bb ob : Nat) (xs ys : List Mon) (N : Nat) (w : World) (S : List Yl → World → Prop)
    (hSB : ∀ zs W, S zs W → Below w.heap.size w W) (hSm : ∀ zs W W', S zs W → Below W.heap.size W W' → S zs W')
    (hSs : ∀ zs W W' b cs t, S zs W → W.heap[b]? = some (.cells cs t (0, 0)) → t ≠ 48 → b ≠ ob → w.heap.size ≤ b → W.grownBy W' (some b) → S zs W')
    (hob : ∀ zs W, S zs W → ob < W.heap.size) (hao : ab ≠ ob) (hbo : bb ≠ ob) (hab : w.heap.size ≤ ab) (hbb : w.heap.size ≤ bb)
    (hYd : ∀ zs (y : Yl) W u v, S zs W → y.1.length ≤ 1000 → y.2.1.length ≤ 1000 → y.2.2.length ≤ 1000 → zs.length < N → Boxed W ab 42 u → Boxed W bb 42 v →
      YieldAt Fence.wide (m - 1) Tryz.prog lw #[.string ⟨y.1.toArray⟩, .agg #[.string ⟨y.2.1.toArray⟩, .string ⟨y.2.2.toArray⟩]] W fun e W' => e = .returned (.bool true) ∧ S (zs ++ [y]) W' ∧ Boxed W' ab 42 u ∧ Boxed W' bb 42 v)
    (hne : ab ≠ bb) (hN : xs.length + ys.length ≤ N) (A B : Option Addr) (n c n' c' : Nat) (hX : RL w A xs n) (hY : RL w B ys n') (hc : n ≤ c) (hc' : n' ≤ c') (hn63 : n ≤ 1000000 ∧ n' ≤ 1000000)
    (W : World) (hS : S [] W) (ha : Boxed W ab 42 (.slice A n c)) (hb : Boxed W bb 42 (.slice B n' c')) :
    CallsIn Fence.wide m Tryz.prog 255 #[.func (.yield lw) #[] #[], .pointer (some ⟨ab, 0, none⟩), .pointer (some ⟨bb, 0, none⟩)] W fun e W' => (∃ v, e = .returned v) ∧ S (bothL xs ys) W' := by
  have HB := Lib.hid hSB
  have HM := Lib.hid hSm
  have HSs := Lib.hid hSs
  have HO := Lib.hid hob
  have HY := Lib.hid hYd
  have HX := Lib.hid hS
  have HXL := Lib.hid hX
  have HYL := Lib.hid hY
  clear hSB hSm hSs hYd hS hX hY hob
  refine callsIn_of_wp Tryz.func255 rfl trivial ?_ rfl
  simp only [Tryz.ntmps255, List.size_toArray, List.length_cons, List.length_nil, Nat.reduceAdd, Nat.reduceSub, Array.replicate_succ, Array.replicate_zero, List.push_toArray, List.append_toArray, List.nil_append, List.cons_append]
  gi_wp2_with fail
  gi_loopw [4] (fun _ wr => ∃ (X Y : List Mon) (A B : Option Addr) (n c n' c' : Nat) (zs : List Yl), Hid (RL w A X n) ∧ Hid (RL w B Y n') ∧ n ≤ c ∧ n' ≤ c' ∧ n ≤ 1000000 ∧ n' ≤ 1000000 ∧ Hid (zs ++ bothL X Y = bothL xs ys) ∧ zs.length + n + n' ≤ N ∧ Hid (S zs wr) ∧ Hid (Boxed wr ab 42 (.slice A n c)) ∧ Hid (Boxed wr bb 42 (.slice B n' c'))) (fun _ wr => lenAt wr ab + lenAt wr bb)
  case atStart => exact ⟨xs, ys, A, B, n, c, n', c', [], HXL.out, HYL.out, hc, hc', hn63.1, hn63.2, rfl, by have := HXL.out.len; have := HYL.out.len; simp; omega, HX.out, ha, hb⟩
  case round =>
    clear HX HXL HYL ha hb hc hc' hn63 hN
    obtain ⟨X, Y, A, B, n, c, n', c', zs, HXL, HYL, hc, hc', hn, hn', HQ, hzl, HX, HA, HBb⟩ := hrel
    have hb := HB.out _ _ HX.out
    have la := lenAt_eq HA.out
    have lb := lenAt_eq HBb.out
    have qa := HA.out.cell
    have qb := HBb.out.cell
    cases X with
    | nil =>
      obtain rfl : n = 0 := HXL.out.len.symm
      cases Y with
      | nil =>
        obtain rfl : n' = 0 := HYL.out.len.symm
        have HE : Hid (S (bothL xs ys) wr) := by
          have h1 := HQ.out
          rw [show bothL [] [] = [] from rfl, List.append_nil] at h1
          show S _ wr
          rw [← h1]; exact HX.out
        clear HX HQ la lb hb
        gi_wp2
        go_end0
        exact ⟨⟨_, rfl⟩, HE.out⟩
      | cons y s =>
        obtain ⟨m1, rfl⟩ : ∃ k, n' = k + 1 := ⟨s.length, by have := HYL.out.len; simpa using this.symm⟩
        obtain ⟨b', o', rfl, hbs', h0, h1⟩ := HYL.out.head
        have R0 := Lib.hid h0
        have R1 := Lib.hid h1
        clear h0 h1
        obtain ⟨hy1, hy2⟩ := HYL.out.str y (List.mem_cons_self ..)
        have hyn := HYL.out.next hc'
        obtain ⟨D, hD⟩ : ∃ D, (if c' = 1 then (some ⟨b', o', none⟩ : Option Addr) else some ⟨b', o' + 2, none⟩) = D := ⟨_, rfl⟩
        rw [hD] at hyn
        have HYN := Lib.hid hyn
        have HD := Lib.hid hD
        clear hyn hD
        have kb : 0 < m1 + 1 := by omega
        have kd : (1 : Int) ≤ (m1 : Int) + 1 := by omega
        have kb1 : ((m1 : Int) + 1 == 0) = false := intbne (by omega)
        have HQ2 : Hid (zs ++ [(y.cur, [], y.amt)] ++ bothL [] s = bothL xs ys) := by
          have h1 := HQ.out
          rw [show bothL [] (y :: s) = (y.cur, [], y.amt) :: bothL [] s from rfl] at h1
          show _ = _
          rw [List.append_assoc, List.singleton_append]; exact h1
        clear HQ
        gi_wp2_with fail
        have hbA := below_alloc wr (.cells #[.string ⟨#[]⟩, .string ⟨#[]⟩] 201)
        have HN0 : (wr.alloc (.cells #[.string ⟨#[]⟩, .string ⟨#[]⟩] 201)).heap[wr.heap.size]? = some (.cells #[.string ⟨#[]⟩, .string ⟨#[]⟩] 201 (0, 0)) := heap_alloc_new wr _
        have na : wr.heap.size ≠ ab := by have := HA.out.lt; omega
        have nb : wr.heap.size ≠ bb := by have := HBb.out.lt; omega
        have no : wr.heap.size ≠ ob := by have := HO.out _ _ HX.out; omega
        have nw := hb.size
        obtain ⟨W1, hW1⟩ : ∃ W1, W1 = wr.alloc (.cells #[.string ⟨#[]⟩, .string ⟨#[]⟩] 201) := ⟨_, rfl⟩
        rw [← hW1] at hbA HN0 ⊢
        replace HX := Lib.hid (HM.out _ _ _ HX.out hbA)
        replace HA := Lib.hid (bx_below HA.out hbA)
        replace HBb := Lib.hid (bx_below HBb.out hbA)
        generalize wr.heap.size = nn at *
        have HLa := Lib.hid la
        have HLb := Lib.hid lb
        clear hW1 hbA qa qb la lb
        replace hb := HB.out _ _ HX.out
        refine wpIn_wide.2 ?_
        refine wp_region_kept (by kernel_rfl) (by kernel_rfl) ?_
        refine kept_val _ (fun _ => rfl) (fun ρ w hw => by have q0 := (bx_below HBb.out hw).cell; go_simp; first | done | with_reducible rfl) ?_
        simp only [Act.put, List.setIfInBounds_toArray, List.set_cons_zero, List.set_cons_succ, Nat.reduceAdd]
        refine kept_val _ (fun _ => rfl) (fun ρ w hw => by go_simp; first | done | with_reducible rfl) ?_
        simp only [Act.put, List.setIfInBounds_toArray, List.set_cons_zero, List.set_cons_succ, Nat.reduceAdd]
        refine kept_val _ (fun _ => rfl) (fun ρ w hw => by go_simp; first | done | with_reducible rfl) ?_
        simp only [Act.put, List.setIfInBounds_toArray, List.set_cons_zero, List.set_cons_succ, Nat.reduceAdd]
        refine kept_val _ (fun _ => rfl) (fun ρ w hw => by go_simp; first | done | with_reducible rfl) ?_
        simp only [Act.put, List.setIfInBounds_toArray, List.set_cons_zero, List.set_cons_succ, Nat.reduceAdd]
        refine kept_val _ (fun _ => rfl) (fun ρ w hw => by have q0 := (bx_below HA.out hw).cell; go_simp; first | done | with_reducible rfl) ?_
        simp only [Act.put, List.setIfInBounds_toArray, List.set_cons_zero, List.set_cons_succ, Nat.reduceAdd]
        refine kept_val _ (fun _ => rfl) (fun ρ w hw => by go_simp; first | done | with_reducible rfl) ?_
        simp only [Act.put, List.setIfInBounds_toArray, List.set_cons_zero, List.set_cons_succ, Nat.reduceAdd]
        refine kept_val _ (fun _ => rfl) (fun ρ w hw => by go_simp; first | done | with_reducible rfl) ?_
        simp only [Act.put, List.setIfInBounds_toArray, List.set_cons_zero, List.set_cons_succ, Nat.reduceAdd]
        refine kept_val _ (fun _ => rfl) (fun ρ w hw => by go_simp; first | done | with_reducible rfl) ?_
        simp only [Act.put, List.setIfInBounds_toArray, List.set_cons_zero, List.set_cons_succ, Nat.reduceAdd]
        refine kept_off (fun _ => rfl) ?_
        simp only [Act.put, List.setIfInBounds_toArray, List.set_cons_zero, List.set_cons_succ, Nat.reduceAdd]
        refine kept_off (fun _ => rfl) ?_
        simp only [Act.put, List.setIfInBounds_toArray, List.set_cons_zero, List.set_cons_succ, Nat.reduceAdd]
        refine kept_off (fun _ => rfl) ?_
        simp only [Act.put, List.setIfInBounds_toArray, List.set_cons_zero, List.set_cons_succ, Nat.reduceAdd]
        refine kept_off (fun _ => rfl) ?_
        simp only [Act.put, List.setIfInBounds_toArray, List.set_cons_zero, List.set_cons_succ, Nat.reduceAdd]
        refine kept_off (fun _ => rfl) ?_
        simp only [Act.put, List.setIfInBounds_toArray, List.set_cons_zero, List.set_cons_succ, Nat.reduceAdd]
        refine kept_off (fun _ => rfl) ?_
        simp only [Act.put, List.setIfInBounds_toArray, List.set_cons_zero, List.set_cons_succ, Nat.reduceAdd]
        refine kept_off (fun _ => rfl) ?_
        simp only [Act.put, List.setIfInBounds_toArray, List.set_cons_zero, List.set_cons_succ, Nat.reduceAdd]
        refine kept_off (fun _ => rfl) ?_
        simp only [Act.put, List.setIfInBounds_toArray, List.set_cons_zero, List.set_cons_succ, Nat.reduceAdd]
        refine kept_off (fun _ => rfl) ?_
        simp only [Act.put, List.setIfInBounds_toArray, List.set_cons_zero, List.set_cons_succ, Nat.reduceAdd]
        refine kept_val _ (fun _ => rfl) (fun ρ w hw => by go_simp; first | done | with_reducible rfl) ?_
        simp only [Act.put, List.setIfInBounds_toArray, List.set_cons_zero, List.set_cons_succ, Nat.reduceAdd]
        refine kept_val _ (fun _ => rfl) (fun ρ w hw => by go_simp; first | done | with_reducible rfl) ?_
        simp only [Act.put, List.setIfInBounds_toArray, List.set_cons_zero, List.set_cons_succ, Nat.reduceAdd]
        refine kept_val _ (fun _ => rfl) (fun ρ w hw => by go_simp; first | done | with_reducible rfl) ?_
        simp only [Act.put, List.setIfInBounds_toArray, List.set_cons_zero, List.set_cons_succ, Nat.reduceAdd]
        refine kept_end (fun ρ W2 hF => ?_)
        have hF := hF.below
        replace HX := Lib.hid (HM.out _ _ _ HX.out hF)
        replace HA := Lib.hid (bx_below HA.out hF)
        replace HBb := Lib.hid (bx_below HBb.out hF)
        replace HN0 := (hF.block nn (Array.getElem?_eq_some_iff.1 HN0).1).trans HN0
        replace hb := HB.out _ _ HX.out
        clear hF
        have qa := HA.out.cell
        have qb := HBb.out.cell
        have r0 := (hb.cell (p := ⟨b', o', none⟩) hbs').trans R0.out
        gi_wp2_with fail
        clear qa qb r0
        have r1 := (hb.cell (p := ⟨b', o' + 1, none⟩) hbs').trans R1.out
        have hbl := Nat.lt_of_lt_of_le hbs' hb.size
        have f0 := blk_cell HN0 1
        have f1 := blk_frozen HN0 1
        have f2 := HBb.out.cell
        have f3 := HBb.out.frozen
        have f4 := HD.out
        have f5 := Ne.symm nb
        gi_region
        have hs1 := HSs.out zs _ _ nn _ _ HX.out HN0 (by decide) no nw (grownBy_setCell2 _ nn 1 (.string ⟨(y.amt).toArray⟩))
        have hA1 := bx_far (i := 1) (u := (.string ⟨(y.amt).toArray⟩)) HBb.out (Ne.symm nb)
        have hB1 := bx_far (i := 1) (u := (.string ⟨(y.amt).toArray⟩)) HA.out (Ne.symm na)
        have hN1 := set_cells (.string ⟨(y.amt).toArray⟩) (j := 1) HN0
        have hs2 := HSs.out zs _ _ bb _ _ hs1 hA1 (by decide) hbo hbb (grownBy_setCell' _ bb (.slice D m1 (c' - 1)))
        replace hs2 := HM.out _ _ _ hs2 (below_drw _)
        have hA2 : Boxed _ bb 42 _ := (bx_below (Boxed.set (.slice D m1 (c' - 1)) hA1) (below_drw _))
        have hB2 : Boxed _ ab 42 _ := bx_below (bx_far (i := 0) (u := (.slice D m1 (c' - 1))) hB1 hne) (below_drw _)
        have hN2 := (Below.heap_setCell _ ⟨bb, 0, none⟩ (.slice D m1 (c' - 1)) nn nb).trans hN1
        obtain ⟨W3, hWb⟩ : ∃ Wb, Wb = ((W2.setCell ⟨nn, 1, none⟩ (.string ⟨(y.amt).toArray⟩)).setCell ⟨bb, 0, none⟩ (.slice D m1 (c' - 1))).drew := ⟨_, rfl⟩
        replace hN2 : W3.heap[nn]? = _ := (congrArg (fun W : World => W.heap[nn]?) hWb).trans hN2
        rw [← hWb] at hs2 hA2 hB2 ⊢
        clear HX HA HBb HN0 hb
        have HX := Lib.hid hs2
        have HBb := Lib.hid hA2
        have HA := Lib.hid hB2
        have HN0 := hN2
        have hb := HB.out _ _ HX.out
        clear hWb f0 f1 f2 f3 f4 f5 hs1 hs2 hA1 hB1 hN1 hA2 hB2 hN2 hbl r1
        have qa := HA.out.cell
        have qb := HBb.out.cell
        have r0 := (hb.cell (p := ⟨b', o', none⟩) hbs').trans R0.out
        have u0 := blk_cell HN0 0
        have u1 := blk_cell HN0 1
        have hyy := HY.out zs (y.cur, [], y.amt) _ _ _ HX.out hy1 (Nat.zero_le 1000) hy2 (by omega) HA.out HBb.out
        have hyz : YieldAt Fence.wide (m - 1) Tryz.prog lw #[.string ⟨y.cur.toArray⟩, .agg #[.string ⟨#[]⟩, .string ⟨y.amt.toArray⟩]] _ _ := hyy
        clear hyy
        obtain ⟨fn, tmps, assign, body, hyr, hR⟩ := hyz
        gi_wp2
        refine ⟨fun h => (by cases h), hR.mono ?_⟩
        rintro e W9 ⟨rfl, hS9, hA9, hB9⟩
        have HS9 := Lib.hid hS9
        have HA9 := Lib.hid hA9
        have HB9 := Lib.hid hB9
        clear hS9 hA9 hB9 hR hyr HX HA HBb HN0 u0 u1 hb qa qb r0
        gi_wp2
        go_roundw
        case rel => exact ⟨[], s, A, D, 0, c, m1, c' - 1, zs ++ [(y.cur, [], y.amt)], HXL.out, HYN.out, by omega, by omega, by omega, by omega, HQ2.out, by rw [List.length_append, List.length_singleton]; omega, HS9.out, HA9.out, HB9.out⟩
        case measure =>
          have e1 := lenAt_eq HA9.out
          have e2 := lenAt_eq HB9.out
          have e3 := HLa.out
          have e4 := HLb.out
          rw [e1, e2, e3, e4]
          omega
    | cons x r =>
      cases Y with
      | nil =>
        obtain ⟨n1, rfl⟩ : ∃ k, n = k + 1 := ⟨r.length, by have := HXL.out.len; simpa using this.symm⟩
        obtain ⟨b, o, rfl, hbs, h0, h1⟩ := HXL.out.head
        have P0 := Lib.hid h0
        have P1 := Lib.hid h1
        clear h0 h1
        obtain ⟨hx1, hx2⟩ := HXL.out.str x (List.mem_cons_self ..)
        have hxn := HXL.out.next hc
        obtain ⟨C, hC⟩ : ∃ C, (if c = 1 then (some ⟨b, o, none⟩ : Option Addr) else some ⟨b, o + 2, none⟩) = C := ⟨_, rfl⟩
        rw [hC] at hxn
        have HXN := Lib.hid hxn
        have HC := Lib.hid hC
        clear hxn hC
        have ka : 0 < n1 + 1 := by omega
        have kc : (1 : Int) ≤ (n1 : Int) + 1 := by omega
        have ka1 : ((n1 : Int) + 1 == 0) = false := intbne (by omega)
        obtain rfl : n' = 0 := HYL.out.len.symm
        have HQ2 : Hid (zs ++ [(x.cur, x.amt, [])] ++ bothL r [] = bothL xs ys) := by
          have h1 := HQ.out
          rw [show bothL (x :: r) [] = (x.cur, x.amt, []) :: bothL r [] from both_nil x r] at h1
          show _ = _
          rw [List.append_assoc, List.singleton_append]; exact h1
        clear HQ
        gi_wp2_with fail
        have hbA := below_alloc wr (.cells #[.string ⟨#[]⟩, .string ⟨#[]⟩] 201)
        have HN0 : (wr.alloc (.cells #[.string ⟨#[]⟩, .string ⟨#[]⟩] 201)).heap[wr.heap.size]? = some (.cells #[.string ⟨#[]⟩, .string ⟨#[]⟩] 201 (0, 0)) := heap_alloc_new wr _
        have na : wr.heap.size ≠ ab := by have := HA.out.lt; omega
        have nb : wr.heap.size ≠ bb := by have := HBb.out.lt; omega
        have no : wr.heap.size ≠ ob := by have := HO.out _ _ HX.out; omega
        have nw := hb.size
        obtain ⟨W1, hW1⟩ : ∃ W1, W1 = wr.alloc (.cells #[.string ⟨#[]⟩, .string ⟨#[]⟩] 201) := ⟨_, rfl⟩
        rw [← hW1] at hbA HN0 ⊢
        replace HX := Lib.hid (HM.out _ _ _ HX.out hbA)
        replace HA := Lib.hid (bx_below HA.out hbA)
        replace HBb := Lib.hid (bx_below HBb.out hbA)
        generalize wr.heap.size = nn at *
        have HLa := Lib.hid la
        have HLb := Lib.hid lb
        clear hW1 hbA qa qb la lb
        replace hb := HB.out _ _ HX.out
        refine wpIn_wide.2 ?_
        refine wp_region_kept (by kernel_rfl) (by kernel_rfl) ?_
        refine kept_val _ (fun _ => rfl) (fun ρ w hw => by have q0 := (bx_below HBb.out hw).cell; go_simp; first | done | with_reducible rfl) ?_
        simp only [Act.put, List.setIfInBounds_toArray, List.set_cons_zero, List.set_cons_succ, Nat.reduceAdd]
        refine kept_val _ (fun _ => rfl) (fun ρ w hw => by go_simp; first | done | with_reducible rfl) ?_
        simp only [Act.put, List.setIfInBounds_toArray, List.set_cons_zero, List.set_cons_succ, Nat.reduceAdd]
        refine kept_val _ (fun _ => rfl) (fun ρ w hw => by go_simp; first | done | with_reducible rfl) ?_
        simp only [Act.put, List.setIfInBounds_toArray, List.set_cons_zero, List.set_cons_succ, Nat.reduceAdd]
        refine kept_val _ (fun _ => rfl) (fun ρ w hw => by go_simp; first | done | with_reducible rfl) ?_
        simp only [Act.put, List.setIfInBounds_toArray, List.set_cons_zero, List.set_cons_succ, Nat.reduceAdd]
        refine kept_off (fun _ => rfl) ?_
        simp only [Act.put, List.setIfInBounds_toArray, List.set_cons_zero, List.set_cons_succ, Nat.reduceAdd]
        refine kept_off (fun _ => rfl) ?_
        simp only [Act.put, List.setIfInBounds_toArray, List.set_cons_zero, List.set_cons_succ, Nat.reduceAdd]
        refine kept_off (fun _ => rfl) ?_
        simp only [Act.put, List.setIfInBounds_toArray, List.set_cons_zero, List.set_cons_succ, Nat.reduceAdd]
        refine kept_off (fun _ => rfl) ?_
        simp only [Act.put, List.setIfInBounds_toArray, List.set_cons_zero, List.set_cons_succ, Nat.reduceAdd]
        refine kept_off (fun _ => rfl) ?_
        simp only [Act.put, List.setIfInBounds_toArray, List.set_cons_zero, List.set_cons_succ, Nat.reduceAdd]
        refine kept_off (fun _ => rfl) ?_
        simp only [Act.put, List.setIfInBounds_toArray, List.set_cons_zero, List.set_cons_succ, Nat.reduceAdd]
        refine kept_off (fun _ => rfl) ?_
        simp only [Act.put, List.setIfInBounds_toArray, List.set_cons_zero, List.set_cons_succ, Nat.reduceAdd]
        refine kept_off (fun _ => rfl) ?_
        simp only [Act.put, List.setIfInBounds_toArray, List.set_cons_zero, List.set_cons_succ, Nat.reduceAdd]
        refine kept_off (fun _ => rfl) ?_
        simp only [Act.put, List.setIfInBounds_toArray, List.set_cons_zero, List.set_cons_succ, Nat.reduceAdd]
        refine kept_off (fun _ => rfl) ?_
        simp only [Act.put, List.setIfInBounds_toArray, List.set_cons_zero, List.set_cons_succ, Nat.reduceAdd]
        refine kept_off (fun _ => rfl) ?_
        simp only [Act.put, List.setIfInBounds_toArray, List.set_cons_zero, List.set_cons_succ, Nat.reduceAdd]
        refine kept_off (fun _ => rfl) ?_
        simp only [Act.put, List.setIfInBounds_toArray, List.set_cons_zero, List.set_cons_succ, Nat.reduceAdd]
        refine kept_off (fun _ => rfl) ?_
        simp only [Act.put, List.setIfInBounds_toArray, List.set_cons_zero, List.set_cons_succ, Nat.reduceAdd]
        refine kept_off (fun _ => rfl) ?_
        simp only [Act.put, List.setIfInBounds_toArray, List.set_cons_zero, List.set_cons_succ, Nat.reduceAdd]
        refine kept_val _ (fun _ => rfl) (fun ρ w hw => by go_simp; first | done | with_reducible rfl) ?_
        simp only [Act.put, List.setIfInBounds_toArray, List.set_cons_zero, List.set_cons_succ, Nat.reduceAdd]
        refine kept_val _ (fun _ => rfl) (fun ρ w hw => by go_simp; first | done | with_reducible rfl) ?_
        simp only [Act.put, List.setIfInBounds_toArray, List.set_cons_zero, List.set_cons_succ, Nat.reduceAdd]
        refine kept_end (fun ρ W2 hF => ?_)
        have hF := hF.below
        replace HX := Lib.hid (HM.out _ _ _ HX.out hF)
        replace HA := Lib.hid (bx_below HA.out hF)
        replace HBb := Lib.hid (bx_below HBb.out hF)
        replace HN0 := (hF.block nn (Array.getElem?_eq_some_iff.1 HN0).1).trans HN0
        replace hb := HB.out _ _ HX.out
        clear hF
        have qa := HA.out.cell
        have qb := HBb.out.cell
        have p0 := (hb.cell (p := ⟨b, o, none⟩) hbs).trans P0.out
        gi_wp2_with fail
        clear qa qb p0
        have p1 := (hb.cell (p := ⟨b, o + 1, none⟩) hbs).trans P1.out
        have hbl := Nat.lt_of_lt_of_le hbs hb.size
        have f0 := blk_cell HN0 0
        have f1 := blk_frozen HN0 0
        have f2 := HA.out.cell
        have f3 := HA.out.frozen
        have f4 := HC.out
        have f5 := Ne.symm na
        gi_region
        have hs1 := HSs.out zs _ _ nn _ _ HX.out HN0 (by decide) no nw (grownBy_setCell2 _ nn 0 (.string ⟨(x.amt).toArray⟩))
        have hA1 := bx_far (i := 0) (u := (.string ⟨(x.amt).toArray⟩)) HA.out (Ne.symm na)
        have hB1 := bx_far (i := 0) (u := (.string ⟨(x.amt).toArray⟩)) HBb.out (Ne.symm nb)
        have hN1 := set_cells (.string ⟨(x.amt).toArray⟩) (j := 0) HN0
        have hs2 := HSs.out zs _ _ ab _ _ hs1 hA1 (by decide) hao hab (grownBy_setCell' _ ab (.slice C n1 (c - 1)))
        replace hs2 := HM.out _ _ _ hs2 (below_drw _)
        have hA2 : Boxed _ ab 42 _ := (bx_below (Boxed.set (.slice C n1 (c - 1)) hA1) (below_drw _))
        have hB2 : Boxed _ bb 42 _ := bx_below (bx_far (i := 0) (u := (.slice C n1 (c - 1))) hB1 hne.symm) (below_drw _)
        have hN2 := (Below.heap_setCell _ ⟨ab, 0, none⟩ (.slice C n1 (c - 1)) nn na).trans hN1
        obtain ⟨W3, hWb⟩ : ∃ Wb, Wb = ((W2.setCell ⟨nn, 0, none⟩ (.string ⟨(x.amt).toArray⟩)).setCell ⟨ab, 0, none⟩ (.slice C n1 (c - 1))).drew := ⟨_, rfl⟩
        replace hN2 : W3.heap[nn]? = _ := (congrArg (fun W : World => W.heap[nn]?) hWb).trans hN2
        rw [← hWb] at hs2 hA2 hB2 ⊢
        clear HX HA HBb HN0 hb
        have HX := Lib.hid hs2
        have HA := Lib.hid hA2
        have HBb := Lib.hid hB2
        have HN0 := hN2
        have hb := HB.out _ _ HX.out
        clear hWb f0 f1 f2 f3 f4 f5 hs1 hs2 hA1 hB1 hN1 hA2 hB2 hN2 hbl p1
        have qa := HA.out.cell
        have qb := HBb.out.cell
        have p0 := (hb.cell (p := ⟨b, o, none⟩) hbs).trans P0.out
        have u0 := blk_cell HN0 0
        have u1 := blk_cell HN0 1
        have hyy := HY.out zs (x.cur, x.amt, []) _ _ _ HX.out hx1 hx2 (Nat.zero_le 1000) (by omega) HA.out HBb.out
        have hyz : YieldAt Fence.wide (m - 1) Tryz.prog lw #[.string ⟨x.cur.toArray⟩, .agg #[.string ⟨x.amt.toArray⟩, .string ⟨#[]⟩]] _ _ := hyy
        clear hyy
        obtain ⟨fn, tmps, assign, body, hyr, hR⟩ := hyz
        gi_wp2
        refine ⟨fun h => (by cases h), hR.mono ?_⟩
        rintro e W9 ⟨rfl, hS9, hA9, hB9⟩
        have HS9 := Lib.hid hS9
        have HA9 := Lib.hid hA9
        have HB9 := Lib.hid hB9
        clear hS9 hA9 hB9 hR hyr HX HA HBb HN0 u0 u1 hb qa qb p0
        gi_wp2
        go_roundw
        case rel => exact ⟨r, [], C, B, n1, c - 1, 0, c', zs ++ [(x.cur, x.amt, [])], HXN.out, HYL.out, by omega, by omega, by omega, by omega, HQ2.out, by rw [List.length_append, List.length_singleton]; omega, HS9.out, HA9.out, HB9.out⟩
        case measure =>
          have e1 := lenAt_eq HA9.out
          have e2 := lenAt_eq HB9.out
          have e3 := HLa.out
          have e4 := HLb.out
          rw [e1, e2, e3, e4]
          omega
      | cons y s =>
        rcases ltS_tri x.cur y.cur with hlt | heq | hgt
        · skip
          obtain ⟨n1, rfl⟩ : ∃ k, n = k + 1 := ⟨r.length, by have := HXL.out.len; simpa using this.symm⟩
          obtain ⟨b, o, rfl, hbs, h0, h1⟩ := HXL.out.head
          have P0 := Lib.hid h0
          have P1 := Lib.hid h1
          clear h0 h1
          obtain ⟨hx1, hx2⟩ := HXL.out.str x (List.mem_cons_self ..)
          have hxn := HXL.out.next hc
          obtain ⟨C, hC⟩ : ∃ C, (if c = 1 then (some ⟨b, o, none⟩ : Option Addr) else some ⟨b, o + 2, none⟩) = C := ⟨_, rfl⟩
          rw [hC] at hxn
          have HXN := Lib.hid hxn
          have HC := Lib.hid hC
          clear hxn hC
          have ka : 0 < n1 + 1 := by omega
          have kc : (1 : Int) ≤ (n1 : Int) + 1 := by omega
          have ka1 : ((n1 : Int) + 1 == 0) = false := intbne (by omega)
          obtain ⟨m1, rfl⟩ : ∃ k, n' = k + 1 := ⟨s.length, by have := HYL.out.len; simpa using this.symm⟩
          obtain ⟨b', o', rfl, hbs', h0, h1⟩ := HYL.out.head
          have R0 := Lib.hid h0
          have R1 := Lib.hid h1
          clear h0 h1
          obtain ⟨hy1, hy2⟩ := HYL.out.str y (List.mem_cons_self ..)
          have hyn := HYL.out.next hc'
          obtain ⟨D, hD⟩ : ∃ D, (if c' = 1 then (some ⟨b', o', none⟩ : Option Addr) else some ⟨b', o' + 2, none⟩) = D := ⟨_, rfl⟩
          rw [hD] at hyn
          have HYN := Lib.hid hyn
          have HD := Lib.hid hD
          clear hyn hD
          have kb : 0 < m1 + 1 := by omega
          have kd : (1 : Int) ≤ (m1 : Int) + 1 := by omega
          have kb1 : ((m1 : Int) + 1 == 0) = false := intbne (by omega)
          have HQ2 : Hid (zs ++ [(x.cur, x.amt, [])] ++ bothL r (y :: s) = bothL xs ys) := by
            have h1 := HQ.out
            rw [show bothL (x :: r) (y :: s) = (x.cur, x.amt, []) :: bothL r (y :: s) from both_lt hlt r s] at h1
            show _ = _
            rw [List.append_assoc, List.singleton_append]; exact h1
          have g1 := hlt
          have g2 : (y.cur == x.cur) = false := by rw [beq_eq_false_iff_ne]; exact (ltS_ne hlt).symm
          clear hlt
          clear HQ
          gi_wp2_with fail
          have hbA := below_alloc wr (.cells #[.string ⟨#[]⟩, .string ⟨#[]⟩] 201)
          have HN0 : (wr.alloc (.cells #[.string ⟨#[]⟩, .string ⟨#[]⟩] 201)).heap[wr.heap.size]? = some (.cells #[.string ⟨#[]⟩, .string ⟨#[]⟩] 201 (0, 0)) := heap_alloc_new wr _
          have na : wr.heap.size ≠ ab := by have := HA.out.lt; omega
          have nb : wr.heap.size ≠ bb := by have := HBb.out.lt; omega
          have no : wr.heap.size ≠ ob := by have := HO.out _ _ HX.out; omega
          have nw := hb.size
          obtain ⟨W1, hW1⟩ : ∃ W1, W1 = wr.alloc (.cells #[.string ⟨#[]⟩, .string ⟨#[]⟩] 201) := ⟨_, rfl⟩
          rw [← hW1] at hbA HN0 ⊢
          replace HX := Lib.hid (HM.out _ _ _ HX.out hbA)
          replace HA := Lib.hid (bx_below HA.out hbA)
          replace HBb := Lib.hid (bx_below HBb.out hbA)
          generalize wr.heap.size = nn at *
          have HLa := Lib.hid la
          have HLb := Lib.hid lb
          clear hW1 hbA qa qb la lb
          replace hb := HB.out _ _ HX.out
          refine wpIn_wide.2 ?_
          refine wp_region_kept (by kernel_rfl) (by kernel_rfl) ?_
          refine kept_val _ (fun _ => rfl) (fun ρ w hw => by have q0 := (bx_below HBb.out hw).cell; go_simp; first | done | with_reducible rfl) ?_
          simp only [Act.put, List.setIfInBounds_toArray, List.set_cons_zero, List.set_cons_succ, Nat.reduceAdd]
          refine kept_val _ (fun _ => rfl) (fun ρ w hw => by go_simp; first | done | with_reducible rfl) ?_
          simp only [Act.put, List.setIfInBounds_toArray, List.set_cons_zero, List.set_cons_succ, Nat.reduceAdd]
          refine kept_val _ (fun _ => rfl) (fun ρ w hw => by go_simp; first | done | with_reducible rfl) ?_
          simp only [Act.put, List.setIfInBounds_toArray, List.set_cons_zero, List.set_cons_succ, Nat.reduceAdd]
          refine kept_val _ (fun _ => rfl) (fun ρ w hw => by go_simp; first | done | with_reducible rfl) ?_
          simp only [Act.put, List.setIfInBounds_toArray, List.set_cons_zero, List.set_cons_succ, Nat.reduceAdd]
          refine kept_val _ (fun _ => rfl) (fun ρ w hw => by have q0 := (bx_below HA.out hw).cell; go_simp; first | done | with_reducible rfl) ?_
          simp only [Act.put, List.setIfInBounds_toArray, List.set_cons_zero, List.set_cons_succ, Nat.reduceAdd]
          refine kept_val _ (fun _ => rfl) (fun ρ w hw => by go_simp; first | done | with_reducible rfl) ?_
          simp only [Act.put, List.setIfInBounds_toArray, List.set_cons_zero, List.set_cons_succ, Nat.reduceAdd]
          refine kept_val _ (fun _ => rfl) (fun ρ w hw => by go_simp; first | done | with_reducible rfl) ?_
          simp only [Act.put, List.setIfInBounds_toArray, List.set_cons_zero, List.set_cons_succ, Nat.reduceAdd]
          refine kept_val _ (fun _ => rfl) (fun ρ w hw => by go_simp; first | done | with_reducible rfl) ?_
          simp only [Act.put, List.setIfInBounds_toArray, List.set_cons_zero, List.set_cons_succ, Nat.reduceAdd]
          refine kept_val _ (fun _ => rfl) (fun ρ w hw => by have q0 := (bx_below HA.out hw).cell; go_simp; first | done | with_reducible rfl) ?_
          simp only [Act.put, List.setIfInBounds_toArray, List.set_cons_zero, List.set_cons_succ, Nat.reduceAdd]
          refine kept_val _ (fun _ => rfl) (fun ρ w hw => by go_simp; first | done | with_reducible rfl) ?_
          simp only [Act.put, List.setIfInBounds_toArray, List.set_cons_zero, List.set_cons_succ, Nat.reduceAdd]
          refine kept_val _ (fun _ => rfl) (fun ρ w hw => by go_simp; first | done | with_reducible rfl) ?_
          simp only [Act.put, List.setIfInBounds_toArray, List.set_cons_zero, List.set_cons_succ, Nat.reduceAdd]
          refine kept_val _ (fun _ => rfl) (fun ρ w hw => by have q0 := ((bto hb hw).cell (p := ⟨b, o, none⟩) hbs).trans P0.out; go_simp; first | done | with_reducible rfl) ?_
          simp only [Act.put, List.setIfInBounds_toArray, List.set_cons_zero, List.set_cons_succ, Nat.reduceAdd]
          refine kept_val _ (fun _ => rfl) (fun ρ w hw => by have q0 := (bx_below HBb.out hw).cell; go_simp; first | done | with_reducible rfl) ?_
          simp only [Act.put, List.setIfInBounds_toArray, List.set_cons_zero, List.set_cons_succ, Nat.reduceAdd]
          refine kept_val _ (fun _ => rfl) (fun ρ w hw => by go_simp; first | done | with_reducible rfl) ?_
          simp only [Act.put, List.setIfInBounds_toArray, List.set_cons_zero, List.set_cons_succ, Nat.reduceAdd]
          refine kept_val _ (fun _ => rfl) (fun ρ w hw => by go_simp; first | done | with_reducible rfl) ?_
          simp only [Act.put, List.setIfInBounds_toArray, List.set_cons_zero, List.set_cons_succ, Nat.reduceAdd]
          refine kept_val _ (fun _ => rfl) (fun ρ w hw => by have q0 := ((bto hb hw).cell (p := ⟨b', o', none⟩) hbs').trans R0.out; go_simp; first | done | with_reducible rfl) ?_
          simp only [Act.put, List.setIfInBounds_toArray, List.set_cons_zero, List.set_cons_succ, Nat.reduceAdd]
          refine kept_val _ (fun _ => rfl) (fun ρ w hw => by go_simp; first | done | with_reducible rfl) ?_
          simp only [Act.put, List.setIfInBounds_toArray, List.set_cons_zero, List.set_cons_succ, Nat.reduceAdd]
          refine kept_val _ (fun _ => rfl) (fun ρ w hw => by go_simp; first | done | with_reducible rfl) ?_
          simp only [Act.put, List.setIfInBounds_toArray, List.set_cons_zero, List.set_cons_succ, Nat.reduceAdd]
          refine kept_val _ (fun _ => rfl) (fun ρ w hw => by go_simp; first | done | with_reducible rfl) ?_
          simp only [Act.put, List.setIfInBounds_toArray, List.set_cons_zero, List.set_cons_succ, Nat.reduceAdd]
          refine kept_val _ (fun _ => rfl) (fun ρ w hw => by go_simp; first | done | with_reducible rfl) ?_
          simp only [Act.put, List.setIfInBounds_toArray, List.set_cons_zero, List.set_cons_succ, Nat.reduceAdd]
          refine kept_end (fun ρ W2 hF => ?_)
          have hF := hF.below
          replace HX := Lib.hid (HM.out _ _ _ HX.out hF)
          replace HA := Lib.hid (bx_below HA.out hF)
          replace HBb := Lib.hid (bx_below HBb.out hF)
          replace HN0 := (hF.block nn (Array.getElem?_eq_some_iff.1 HN0).1).trans HN0
          replace hb := HB.out _ _ HX.out
          clear hF
          have qa := HA.out.cell
          have qb := HBb.out.cell
          have p0 := (hb.cell (p := ⟨b, o, none⟩) hbs).trans P0.out
          have r0 := (hb.cell (p := ⟨b', o', none⟩) hbs').trans R0.out
          gi_wp2_with fail
          clear qa qb p0 r0
          have p1 := (hb.cell (p := ⟨b, o + 1, none⟩) hbs).trans P1.out
          have hbl := Nat.lt_of_lt_of_le hbs hb.size
          have f0 := blk_cell HN0 0
          have f1 := blk_frozen HN0 0
          have f2 := HA.out.cell
          have f3 := HA.out.frozen
          have f4 := HC.out
          have f5 := Ne.symm na
          gi_region
          have hs1 := HSs.out zs _ _ nn _ _ HX.out HN0 (by decide) no nw (grownBy_setCell2 _ nn 0 (.string ⟨(x.amt).toArray⟩))
          have hA1 := bx_far (i := 0) (u := (.string ⟨(x.amt).toArray⟩)) HA.out (Ne.symm na)
          have hB1 := bx_far (i := 0) (u := (.string ⟨(x.amt).toArray⟩)) HBb.out (Ne.symm nb)
          have hN1 := set_cells (.string ⟨(x.amt).toArray⟩) (j := 0) HN0
          have hs2 := HSs.out zs _ _ ab _ _ hs1 hA1 (by decide) hao hab (grownBy_setCell' _ ab (.slice C n1 (c - 1)))
          replace hs2 := HM.out _ _ _ hs2 (below_drw _)
          have hA2 : Boxed _ ab 42 _ := (bx_below (Boxed.set (.slice C n1 (c - 1)) hA1) (below_drw _))
          have hB2 : Boxed _ bb 42 _ := bx_below (bx_far (i := 0) (u := (.slice C n1 (c - 1))) hB1 hne.symm) (below_drw _)
          have hN2 := (Below.heap_setCell _ ⟨ab, 0, none⟩ (.slice C n1 (c - 1)) nn na).trans hN1
          obtain ⟨W3, hWb⟩ : ∃ Wb, Wb = ((W2.setCell ⟨nn, 0, none⟩ (.string ⟨(x.amt).toArray⟩)).setCell ⟨ab, 0, none⟩ (.slice C n1 (c - 1))).drew := ⟨_, rfl⟩
          replace hN2 : W3.heap[nn]? = _ := (congrArg (fun W : World => W.heap[nn]?) hWb).trans hN2
          rw [← hWb] at hs2 hA2 hB2 ⊢
          clear HX HA HBb HN0 hb
          have HX := Lib.hid hs2
          have HA := Lib.hid hA2
          have HBb := Lib.hid hB2
          have HN0 := hN2
          have hb := HB.out _ _ HX.out
          clear hWb f0 f1 f2 f3 f4 f5 hs1 hs2 hA1 hB1 hN1 hA2 hB2 hN2 hbl p1
          have qa := HA.out.cell
          have qb := HBb.out.cell
          have p0 := (hb.cell (p := ⟨b, o, none⟩) hbs).trans P0.out
          have r0 := (hb.cell (p := ⟨b', o', none⟩) hbs').trans R0.out
          have u0 := blk_cell HN0 0
          have u1 := blk_cell HN0 1
          have hyy := HY.out zs (x.cur, x.amt, []) _ _ _ HX.out hx1 hx2 (Nat.zero_le 1000) (by omega) HA.out HBb.out
          have hyz : YieldAt Fence.wide (m - 1) Tryz.prog lw #[.string ⟨x.cur.toArray⟩, .agg #[.string ⟨x.amt.toArray⟩, .string ⟨#[]⟩]] _ _ := hyy
          clear hyy
          obtain ⟨fn, tmps, assign, body, hyr, hR⟩ := hyz
          gi_wp2
          refine ⟨fun h => (by cases h), hR.mono ?_⟩
          rintro e W9 ⟨rfl, hS9, hA9, hB9⟩
          have HS9 := Lib.hid hS9
          have HA9 := Lib.hid hA9
          have HB9 := Lib.hid hB9
          clear hS9 hA9 hB9 hR hyr HX HA HBb HN0 u0 u1 hb qa qb p0 r0
          gi_wp2
          go_roundw
          case rel => exact ⟨r, y :: s, C, _, n1, c - 1, m1 + 1, c', zs ++ [(x.cur, x.amt, [])], HXN.out, HYL.out, by omega, by omega, by omega, by omega, HQ2.out, by rw [List.length_append, List.length_singleton]; omega, HS9.out, HA9.out, HB9.out⟩
          case measure =>
            have e1 := lenAt_eq HA9.out
            have e2 := lenAt_eq HB9.out
            have e3 := HLa.out
            have e4 := HLb.out
            rw [e1, e2, e3, e4]
            omega
        · skip
          obtain ⟨n1, rfl⟩ : ∃ k, n = k + 1 := ⟨r.length, by have := HXL.out.len; simpa using this.symm⟩
          obtain ⟨b, o, rfl, hbs, h0, h1⟩ := HXL.out.head
          have P0 := Lib.hid h0
          have P1 := Lib.hid h1
          clear h0 h1
          obtain ⟨hx1, hx2⟩ := HXL.out.str x (List.mem_cons_self ..)
          have hxn := HXL.out.next hc
          obtain ⟨C, hC⟩ : ∃ C, (if c = 1 then (some ⟨b, o, none⟩ : Option Addr) else some ⟨b, o + 2, none⟩) = C := ⟨_, rfl⟩
          rw [hC] at hxn
          have HXN := Lib.hid hxn
          have HC := Lib.hid hC
          clear hxn hC
          have ka : 0 < n1 + 1 := by omega
          have kc : (1 : Int) ≤ (n1 : Int) + 1 := by omega
          have ka1 : ((n1 : Int) + 1 == 0) = false := intbne (by omega)
          obtain ⟨m1, rfl⟩ : ∃ k, n' = k + 1 := ⟨s.length, by have := HYL.out.len; simpa using this.symm⟩
          obtain ⟨b', o', rfl, hbs', h0, h1⟩ := HYL.out.head
          have R0 := Lib.hid h0
          have R1 := Lib.hid h1
          clear h0 h1
          obtain ⟨hy1, hy2⟩ := HYL.out.str y (List.mem_cons_self ..)
          have hyn := HYL.out.next hc'
          obtain ⟨D, hD⟩ : ∃ D, (if c' = 1 then (some ⟨b', o', none⟩ : Option Addr) else some ⟨b', o' + 2, none⟩) = D := ⟨_, rfl⟩
          rw [hD] at hyn
          have HYN := Lib.hid hyn
          have HD := Lib.hid hD
          clear hyn hD
          have kb : 0 < m1 + 1 := by omega
          have kd : (1 : Int) ≤ (m1 : Int) + 1 := by omega
          have kb1 : ((m1 : Int) + 1 == 0) = false := intbne (by omega)
          have HQ2 : Hid (zs ++ [(x.cur, x.amt, y.amt)] ++ bothL r s = bothL xs ys) := by
            have h1 := HQ.out
            rw [show bothL (x :: r) (y :: s) = (x.cur, x.amt, y.amt) :: bothL r s from both_eq heq r s] at h1
            show _ = _
            rw [List.append_assoc, List.singleton_append]; exact h1
          have g1 : bytesLess x.cur y.cur = false := by rw [heq]; exact ltS_irr _
          have g2 : (x.cur == y.cur) = true := by rw [beq_iff_eq]; exact heq
          have g3 : (y.cur == x.cur) = true := by rw [beq_iff_eq]; exact heq.symm
          clear heq
          clear HQ
          gi_wp2_with fail
          have hbA := below_alloc wr (.cells #[.string ⟨#[]⟩, .string ⟨#[]⟩] 201)
          have HN0 : (wr.alloc (.cells #[.string ⟨#[]⟩, .string ⟨#[]⟩] 201)).heap[wr.heap.size]? = some (.cells #[.string ⟨#[]⟩, .string ⟨#[]⟩] 201 (0, 0)) := heap_alloc_new wr _
          have na : wr.heap.size ≠ ab := by have := HA.out.lt; omega
          have nb : wr.heap.size ≠ bb := by have := HBb.out.lt; omega
          have no : wr.heap.size ≠ ob := by have := HO.out _ _ HX.out; omega
          have nw := hb.size
          obtain ⟨W1, hW1⟩ : ∃ W1, W1 = wr.alloc (.cells #[.string ⟨#[]⟩, .string ⟨#[]⟩] 201) := ⟨_, rfl⟩
          rw [← hW1] at hbA HN0 ⊢
          replace HX := Lib.hid (HM.out _ _ _ HX.out hbA)
          replace HA := Lib.hid (bx_below HA.out hbA)
          replace HBb := Lib.hid (bx_below HBb.out hbA)
          generalize wr.heap.size = nn at *
          have HLa := Lib.hid la
          have HLb := Lib.hid lb
          clear hW1 hbA qa qb la lb
          replace hb := HB.out _ _ HX.out
          refine wpIn_wide.2 ?_
          refine wp_region_kept (by kernel_rfl) (by kernel_rfl) ?_
          refine kept_val _ (fun _ => rfl) (fun ρ w hw => by have q0 := (bx_below HBb.out hw).cell; go_simp; first | done | with_reducible rfl) ?_
          simp only [Act.put, List.setIfInBounds_toArray, List.set_cons_zero, List.set_cons_succ, Nat.reduceAdd]
          refine kept_val _ (fun _ => rfl) (fun ρ w hw => by go_simp; first | done | with_reducible rfl) ?_
          simp only [Act.put, List.setIfInBounds_toArray, List.set_cons_zero, List.set_cons_succ, Nat.reduceAdd]
          refine kept_val _ (fun _ => rfl) (fun ρ w hw => by go_simp; first | done | with_reducible rfl) ?_
          simp only [Act.put, List.setIfInBounds_toArray, List.set_cons_zero, List.set_cons_succ, Nat.reduceAdd]
          refine kept_val _ (fun _ => rfl) (fun ρ w hw => by go_simp; first | done | with_reducible rfl) ?_
          simp only [Act.put, List.setIfInBounds_toArray, List.set_cons_zero, List.set_cons_succ, Nat.reduceAdd]
          refine kept_val _ (fun _ => rfl) (fun ρ w hw => by have q0 := (bx_below HA.out hw).cell; go_simp; first | done | with_reducible rfl) ?_
          simp only [Act.put, List.setIfInBounds_toArray, List.set_cons_zero, List.set_cons_succ, Nat.reduceAdd]
          refine kept_val _ (fun _ => rfl) (fun ρ w hw => by go_simp; first | done | with_reducible rfl) ?_
          simp only [Act.put, List.setIfInBounds_toArray, List.set_cons_zero, List.set_cons_succ, Nat.reduceAdd]
          refine kept_val _ (fun _ => rfl) (fun ρ w hw => by go_simp; first | done | with_reducible rfl) ?_
          simp only [Act.put, List.setIfInBounds_toArray, List.set_cons_zero, List.set_cons_succ, Nat.reduceAdd]
          refine kept_val _ (fun _ => rfl) (fun ρ w hw => by go_simp; first | done | with_reducible rfl) ?_
          simp only [Act.put, List.setIfInBounds_toArray, List.set_cons_zero, List.set_cons_succ, Nat.reduceAdd]
          refine kept_val _ (fun _ => rfl) (fun ρ w hw => by have q0 := (bx_below HA.out hw).cell; go_simp; first | done | with_reducible rfl) ?_
          simp only [Act.put, List.setIfInBounds_toArray, List.set_cons_zero, List.set_cons_succ, Nat.reduceAdd]
          refine kept_val _ (fun _ => rfl) (fun ρ w hw => by go_simp; first | done | with_reducible rfl) ?_
          simp only [Act.put, List.setIfInBounds_toArray, List.set_cons_zero, List.set_cons_succ, Nat.reduceAdd]
          refine kept_val _ (fun _ => rfl) (fun ρ w hw => by go_simp; first | done | with_reducible rfl) ?_
          simp only [Act.put, List.setIfInBounds_toArray, List.set_cons_zero, List.set_cons_succ, Nat.reduceAdd]
          refine kept_val _ (fun _ => rfl) (fun ρ w hw => by have q0 := ((bto hb hw).cell (p := ⟨b, o, none⟩) hbs).trans P0.out; go_simp; first | done | with_reducible rfl) ?_
          simp only [Act.put, List.setIfInBounds_toArray, List.set_cons_zero, List.set_cons_succ, Nat.reduceAdd]
          refine kept_val _ (fun _ => rfl) (fun ρ w hw => by have q0 := (bx_below HBb.out hw).cell; go_simp; first | done | with_reducible rfl) ?_
          simp only [Act.put, List.setIfInBounds_toArray, List.set_cons_zero, List.set_cons_succ, Nat.reduceAdd]
          refine kept_val _ (fun _ => rfl) (fun ρ w hw => by go_simp; first | done | with_reducible rfl) ?_
          simp only [Act.put, List.setIfInBounds_toArray, List.set_cons_zero, List.set_cons_succ, Nat.reduceAdd]
          refine kept_val _ (fun _ => rfl) (fun ρ w hw => by go_simp; first | done | with_reducible rfl) ?_
          simp only [Act.put, List.setIfInBounds_toArray, List.set_cons_zero, List.set_cons_succ, Nat.reduceAdd]
          refine kept_val _ (fun _ => rfl) (fun ρ w hw => by have q0 := ((bto hb hw).cell (p := ⟨b', o', none⟩) hbs').trans R0.out; go_simp; first | done | with_reducible rfl) ?_
          simp only [Act.put, List.setIfInBounds_toArray, List.set_cons_zero, List.set_cons_succ, Nat.reduceAdd]
          refine kept_val _ (fun _ => rfl) (fun ρ w hw => by go_simp; first | done | with_reducible rfl) ?_
          simp only [Act.put, List.setIfInBounds_toArray, List.set_cons_zero, List.set_cons_succ, Nat.reduceAdd]
          refine kept_val _ (fun _ => rfl) (fun ρ w hw => by go_simp; first | done | with_reducible rfl) ?_
          simp only [Act.put, List.setIfInBounds_toArray, List.set_cons_zero, List.set_cons_succ, Nat.reduceAdd]
          refine kept_val _ (fun _ => rfl) (fun ρ w hw => by go_simp; first | done | with_reducible rfl) ?_
          simp only [Act.put, List.setIfInBounds_toArray, List.set_cons_zero, List.set_cons_succ, Nat.reduceAdd]
          refine kept_val _ (fun _ => rfl) (fun ρ w hw => by go_simp; first | done | with_reducible rfl) ?_
          simp only [Act.put, List.setIfInBounds_toArray, List.set_cons_zero, List.set_cons_succ, Nat.reduceAdd]
          refine kept_end (fun ρ W2 hF => ?_)
          have hF := hF.below
          replace HX := Lib.hid (HM.out _ _ _ HX.out hF)
          replace HA := Lib.hid (bx_below HA.out hF)
          replace HBb := Lib.hid (bx_below HBb.out hF)
          replace HN0 := (hF.block nn (Array.getElem?_eq_some_iff.1 HN0).1).trans HN0
          replace hb := HB.out _ _ HX.out
          clear hF
          have qa := HA.out.cell
          have qb := HBb.out.cell
          have p0 := (hb.cell (p := ⟨b, o, none⟩) hbs).trans P0.out
          have r0 := (hb.cell (p := ⟨b', o', none⟩) hbs').trans R0.out
          gi_wp2_with fail
          clear qa qb p0 r0
          have p1 := (hb.cell (p := ⟨b, o + 1, none⟩) hbs).trans P1.out
          have hbl := Nat.lt_of_lt_of_le hbs hb.size
          have f0 := blk_cell HN0 0
          have f1 := blk_frozen HN0 0
          have f2 := HA.out.cell
          have f3 := HA.out.frozen
          have f4 := HC.out
          have f5 := Ne.symm na
          gi_region
          have hs1 := HSs.out zs _ _ nn _ _ HX.out HN0 (by decide) no nw (grownBy_setCell2 _ nn 0 (.string ⟨(x.amt).toArray⟩))
          have hA1 := bx_far (i := 0) (u := (.string ⟨(x.amt).toArray⟩)) HA.out (Ne.symm na)
          have hB1 := bx_far (i := 0) (u := (.string ⟨(x.amt).toArray⟩)) HBb.out (Ne.symm nb)
          have hN1 := set_cells (.string ⟨(x.amt).toArray⟩) (j := 0) HN0
          have hs2 := HSs.out zs _ _ ab _ _ hs1 hA1 (by decide) hao hab (grownBy_setCell' _ ab (.slice C n1 (c - 1)))
          replace hs2 := HM.out _ _ _ hs2 (below_drw _)
          have hA2 : Boxed _ ab 42 _ := (bx_below (Boxed.set (.slice C n1 (c - 1)) hA1) (below_drw _))
          have hB2 : Boxed _ bb 42 _ := bx_below (bx_far (i := 0) (u := (.slice C n1 (c - 1))) hB1 hne.symm) (below_drw _)
          have hN2 := (Below.heap_setCell _ ⟨ab, 0, none⟩ (.slice C n1 (c - 1)) nn na).trans hN1
          obtain ⟨W3, hWb⟩ : ∃ Wb, Wb = ((W2.setCell ⟨nn, 0, none⟩ (.string ⟨(x.amt).toArray⟩)).setCell ⟨ab, 0, none⟩ (.slice C n1 (c - 1))).drew := ⟨_, rfl⟩
          replace hN2 : W3.heap[nn]? = _ := (congrArg (fun W : World => W.heap[nn]?) hWb).trans hN2
          rw [← hWb] at hs2 hA2 hB2 ⊢
          clear HX HA HBb HN0 hb
          have HX := Lib.hid hs2
          have HA := Lib.hid hA2
          have HBb := Lib.hid hB2
          have HN0 := hN2
          have hb := HB.out _ _ HX.out
          clear hWb f0 f1 f2 f3 f4 f5 hs1 hs2 hA1 hB1 hN1 hA2 hB2 hN2 hbl p1
          have qa := HA.out.cell
          have qb := HBb.out.cell
          have p0 := (hb.cell (p := ⟨b, o, none⟩) hbs).trans P0.out
          have r0 := (hb.cell (p := ⟨b', o', none⟩) hbs').trans R0.out
          gi_wp2_with fail
          clear qa qb p0 r0
          have r1 := (hb.cell (p := ⟨b', o' + 1, none⟩) hbs').trans R1.out
          have hbl := Nat.lt_of_lt_of_le hbs' hb.size
          have f0 := blk_cell HN0 1
          have f1 := blk_frozen HN0 1
          have f2 := HBb.out.cell
          have f3 := HBb.out.frozen
          have f4 := HD.out
          have f5 := Ne.symm nb
          gi_region
          have hs1 := HSs.out zs _ _ nn _ _ HX.out HN0 (by decide) no nw (grownBy_setCell2 _ nn 1 (.string ⟨(y.amt).toArray⟩))
          have hA1 := bx_far (i := 1) (u := (.string ⟨(y.amt).toArray⟩)) HBb.out (Ne.symm nb)
          have hB1 := bx_far (i := 1) (u := (.string ⟨(y.amt).toArray⟩)) HA.out (Ne.symm na)
          have hN1 := set_cells (.string ⟨(y.amt).toArray⟩) (j := 1) HN0
          have hs2 := HSs.out zs _ _ bb _ _ hs1 hA1 (by decide) hbo hbb (grownBy_setCell' _ bb (.slice D m1 (c' - 1)))
          replace hs2 := HM.out _ _ _ hs2 (below_drw _)
          have hA2 : Boxed _ bb 42 _ := (bx_below (Boxed.set (.slice D m1 (c' - 1)) hA1) (below_drw _))
          have hB2 : Boxed _ ab 42 _ := bx_below (bx_far (i := 0) (u := (.slice D m1 (c' - 1))) hB1 hne) (below_drw _)
          have hN2 := (Below.heap_setCell _ ⟨bb, 0, none⟩ (.slice D m1 (c' - 1)) nn nb).trans hN1
          obtain ⟨W4, hWb⟩ : ∃ Wb, Wb = ((W3.setCell ⟨nn, 1, none⟩ (.string ⟨(y.amt).toArray⟩)).setCell ⟨bb, 0, none⟩ (.slice D m1 (c' - 1))).drew := ⟨_, rfl⟩
          replace hN2 : W4.heap[nn]? = _ := (congrArg (fun W : World => W.heap[nn]?) hWb).trans hN2
          rw [← hWb] at hs2 hA2 hB2 ⊢
          clear HX HA HBb HN0 hb
          have HX := Lib.hid hs2
          have HBb := Lib.hid hA2
          have HA := Lib.hid hB2
          have HN0 := hN2
          have hb := HB.out _ _ HX.out
          clear hWb f0 f1 f2 f3 f4 f5 hs1 hs2 hA1 hB1 hN1 hA2 hB2 hN2 hbl r1
          have qa := HA.out.cell
          have qb := HBb.out.cell
          have p0 := (hb.cell (p := ⟨b, o, none⟩) hbs).trans P0.out
          have r0 := (hb.cell (p := ⟨b', o', none⟩) hbs').trans R0.out
          have u0 := blk_cell HN0 0
          have u1 := blk_cell HN0 1
          have hyy := HY.out zs (x.cur, x.amt, y.amt) _ _ _ HX.out hx1 hx2 hy2 (by omega) HA.out HBb.out
          have hyz : YieldAt Fence.wide (m - 1) Tryz.prog lw #[.string ⟨x.cur.toArray⟩, .agg #[.string ⟨x.amt.toArray⟩, .string ⟨y.amt.toArray⟩]] _ _ := hyy
          clear hyy
          obtain ⟨fn, tmps, assign, body, hyr, hR⟩ := hyz
          gi_wp2
          refine ⟨fun h => (by cases h), hR.mono ?_⟩
          rintro e W9 ⟨rfl, hS9, hA9, hB9⟩
          have HS9 := Lib.hid hS9
          have HA9 := Lib.hid hA9
          have HB9 := Lib.hid hB9
          clear hS9 hA9 hB9 hR hyr HX HA HBb HN0 u0 u1 hb qa qb p0 r0
          gi_wp2
          go_roundw
          case rel => exact ⟨r, s, C, D, n1, c - 1, m1, c' - 1, zs ++ [(x.cur, x.amt, y.amt)], HXN.out, HYN.out, by omega, by omega, by omega, by omega, HQ2.out, by rw [List.length_append, List.length_singleton]; omega, HS9.out, HA9.out, HB9.out⟩
          case measure =>
            have e1 := lenAt_eq HA9.out
            have e2 := lenAt_eq HB9.out
            have e3 := HLa.out
            have e4 := HLb.out
            rw [e1, e2, e3, e4]
            omega
        · skip
          obtain ⟨n1, rfl⟩ : ∃ k, n = k + 1 := ⟨r.length, by have := HXL.out.len; simpa using this.symm⟩
          obtain ⟨b, o, rfl, hbs, h0, h1⟩ := HXL.out.head
          have P0 := Lib.hid h0
          have P1 := Lib.hid h1
          clear h0 h1
          obtain ⟨hx1, hx2⟩ := HXL.out.str x (List.mem_cons_self ..)
          have hxn := HXL.out.next hc
          obtain ⟨C, hC⟩ : ∃ C, (if c = 1 then (some ⟨b, o, none⟩ : Option Addr) else some ⟨b, o + 2, none⟩) = C := ⟨_, rfl⟩
          rw [hC] at hxn
          have HXN := Lib.hid hxn
          have HC := Lib.hid hC
          clear hxn hC
          have ka : 0 < n1 + 1 := by omega
          have kc : (1 : Int) ≤ (n1 : Int) + 1 := by omega
          have ka1 : ((n1 : Int) + 1 == 0) = false := intbne (by omega)
          obtain ⟨m1, rfl⟩ : ∃ k, n' = k + 1 := ⟨s.length, by have := HYL.out.len; simpa using this.symm⟩
          obtain ⟨b', o', rfl, hbs', h0, h1⟩ := HYL.out.head
          have R0 := Lib.hid h0
          have R1 := Lib.hid h1
          clear h0 h1
          obtain ⟨hy1, hy2⟩ := HYL.out.str y (List.mem_cons_self ..)
          have hyn := HYL.out.next hc'
          obtain ⟨D, hD⟩ : ∃ D, (if c' = 1 then (some ⟨b', o', none⟩ : Option Addr) else some ⟨b', o' + 2, none⟩) = D := ⟨_, rfl⟩
          rw [hD] at hyn
          have HYN := Lib.hid hyn
          have HD := Lib.hid hD
          clear hyn hD
          have kb : 0 < m1 + 1 := by omega
          have kd : (1 : Int) ≤ (m1 : Int) + 1 := by omega
          have kb1 : ((m1 : Int) + 1 == 0) = false := intbne (by omega)
          have HQ2 : Hid (zs ++ [(y.cur, [], y.amt)] ++ bothL (x :: r) s = bothL xs ys) := by
            have h1 := HQ.out
            rw [show bothL (x :: r) (y :: s) = (y.cur, [], y.amt) :: bothL (x :: r) s from both_gt hgt r s] at h1
            show _ = _
            rw [List.append_assoc, List.singleton_append]; exact h1
          have g1 := ltS_asym hgt
          have g2 : (x.cur == y.cur) = false := by rw [beq_eq_false_iff_ne]; exact (ltS_ne hgt).symm
          clear hgt
          clear HQ
          gi_wp2_with fail
          have hbA := below_alloc wr (.cells #[.string ⟨#[]⟩, .string ⟨#[]⟩] 201)
          have HN0 : (wr.alloc (.cells #[.string ⟨#[]⟩, .string ⟨#[]⟩] 201)).heap[wr.heap.size]? = some (.cells #[.string ⟨#[]⟩, .string ⟨#[]⟩] 201 (0, 0)) := heap_alloc_new wr _
          have na : wr.heap.size ≠ ab := by have := HA.out.lt; omega
          have nb : wr.heap.size ≠ bb := by have := HBb.out.lt; omega
          have no : wr.heap.size ≠ ob := by have := HO.out _ _ HX.out; omega
          have nw := hb.size
          obtain ⟨W1, hW1⟩ : ∃ W1, W1 = wr.alloc (.cells #[.string ⟨#[]⟩, .string ⟨#[]⟩] 201) := ⟨_, rfl⟩
          rw [← hW1] at hbA HN0 ⊢
          replace HX := Lib.hid (HM.out _ _ _ HX.out hbA)
          replace HA := Lib.hid (bx_below HA.out hbA)
          replace HBb := Lib.hid (bx_below HBb.out hbA)
          generalize wr.heap.size = nn at *
          have HLa := Lib.hid la
          have HLb := Lib.hid lb
          clear hW1 hbA qa qb la lb
          replace hb := HB.out _ _ HX.out
          refine wpIn_wide.2 ?_
          refine wp_region_kept (by kernel_rfl) (by kernel_rfl) ?_
          refine kept_val _ (fun _ => rfl) (fun ρ w hw => by have q0 := (bx_below HBb.out hw).cell; go_simp; first | done | with_reducible rfl) ?_
          simp only [Act.put, List.setIfInBounds_toArray, List.set_cons_zero, List.set_cons_succ, Nat.reduceAdd]
          refine kept_val _ (fun _ => rfl) (fun ρ w hw => by go_simp; first | done | with_reducible rfl) ?_
          simp only [Act.put, List.setIfInBounds_toArray, List.set_cons_zero, List.set_cons_succ, Nat.reduceAdd]
          refine kept_val _ (fun _ => rfl) (fun ρ w hw => by go_simp; first | done | with_reducible rfl) ?_
          simp only [Act.put, List.setIfInBounds_toArray, List.set_cons_zero, List.set_cons_succ, Nat.reduceAdd]
          refine kept_val _ (fun _ => rfl) (fun ρ w hw => by go_simp; first | done | with_reducible rfl) ?_
          simp only [Act.put, List.setIfInBounds_toArray, List.set_cons_zero, List.set_cons_succ, Nat.reduceAdd]
          refine kept_val _ (fun _ => rfl) (fun ρ w hw => by have q0 := (bx_below HA.out hw).cell; go_simp; first | done | with_reducible rfl) ?_
          simp only [Act.put, List.setIfInBounds_toArray, List.set_cons_zero, List.set_cons_succ, Nat.reduceAdd]
          refine kept_val _ (fun _ => rfl) (fun ρ w hw => by go_simp; first | done | with_reducible rfl) ?_
          simp only [Act.put, List.setIfInBounds_toArray, List.set_cons_zero, List.set_cons_succ, Nat.reduceAdd]
          refine kept_val _ (fun _ => rfl) (fun ρ w hw => by go_simp; first | done | with_reducible rfl) ?_
          simp only [Act.put, List.setIfInBounds_toArray, List.set_cons_zero, List.set_cons_succ, Nat.reduceAdd]
          refine kept_val _ (fun _ => rfl) (fun ρ w hw => by go_simp; first | done | with_reducible rfl) ?_
          simp only [Act.put, List.setIfInBounds_toArray, List.set_cons_zero, List.set_cons_succ, Nat.reduceAdd]
          refine kept_val _ (fun _ => rfl) (fun ρ w hw => by have q0 := (bx_below HA.out hw).cell; go_simp; first | done | with_reducible rfl) ?_
          simp only [Act.put, List.setIfInBounds_toArray, List.set_cons_zero, List.set_cons_succ, Nat.reduceAdd]
          refine kept_val _ (fun _ => rfl) (fun ρ w hw => by go_simp; first | done | with_reducible rfl) ?_
          simp only [Act.put, List.setIfInBounds_toArray, List.set_cons_zero, List.set_cons_succ, Nat.reduceAdd]
          refine kept_val _ (fun _ => rfl) (fun ρ w hw => by go_simp; first | done | with_reducible rfl) ?_
          simp only [Act.put, List.setIfInBounds_toArray, List.set_cons_zero, List.set_cons_succ, Nat.reduceAdd]
          refine kept_val _ (fun _ => rfl) (fun ρ w hw => by have q0 := ((bto hb hw).cell (p := ⟨b, o, none⟩) hbs).trans P0.out; go_simp; first | done | with_reducible rfl) ?_
          simp only [Act.put, List.setIfInBounds_toArray, List.set_cons_zero, List.set_cons_succ, Nat.reduceAdd]
          refine kept_val _ (fun _ => rfl) (fun ρ w hw => by have q0 := (bx_below HBb.out hw).cell; go_simp; first | done | with_reducible rfl) ?_
          simp only [Act.put, List.setIfInBounds_toArray, List.set_cons_zero, List.set_cons_succ, Nat.reduceAdd]
          refine kept_val _ (fun _ => rfl) (fun ρ w hw => by go_simp; first | done | with_reducible rfl) ?_
          simp only [Act.put, List.setIfInBounds_toArray, List.set_cons_zero, List.set_cons_succ, Nat.reduceAdd]
          refine kept_val _ (fun _ => rfl) (fun ρ w hw => by go_simp; first | done | with_reducible rfl) ?_
          simp only [Act.put, List.setIfInBounds_toArray, List.set_cons_zero, List.set_cons_succ, Nat.reduceAdd]
          refine kept_val _ (fun _ => rfl) (fun ρ w hw => by have q0 := ((bto hb hw).cell (p := ⟨b', o', none⟩) hbs').trans R0.out; go_simp; first | done | with_reducible rfl) ?_
          simp only [Act.put, List.setIfInBounds_toArray, List.set_cons_zero, List.set_cons_succ, Nat.reduceAdd]
          refine kept_val _ (fun _ => rfl) (fun ρ w hw => by go_simp; first | done | with_reducible rfl) ?_
          simp only [Act.put, List.setIfInBounds_toArray, List.set_cons_zero, List.set_cons_succ, Nat.reduceAdd]
          refine kept_val _ (fun _ => rfl) (fun ρ w hw => by go_simp; first | done | with_reducible rfl) ?_
          simp only [Act.put, List.setIfInBounds_toArray, List.set_cons_zero, List.set_cons_succ, Nat.reduceAdd]
          refine kept_val _ (fun _ => rfl) (fun ρ w hw => by go_simp; first | done | with_reducible rfl) ?_
          simp only [Act.put, List.setIfInBounds_toArray, List.set_cons_zero, List.set_cons_succ, Nat.reduceAdd]
          refine kept_val _ (fun _ => rfl) (fun ρ w hw => by go_simp; first | done | with_reducible rfl) ?_
          simp only [Act.put, List.setIfInBounds_toArray, List.set_cons_zero, List.set_cons_succ, Nat.reduceAdd]
          refine kept_end (fun ρ W2 hF => ?_)
          have hF := hF.below
          replace HX := Lib.hid (HM.out _ _ _ HX.out hF)
          replace HA := Lib.hid (bx_below HA.out hF)
          replace HBb := Lib.hid (bx_below HBb.out hF)
          replace HN0 := (hF.block nn (Array.getElem?_eq_some_iff.1 HN0).1).trans HN0
          replace hb := HB.out _ _ HX.out
          clear hF
          have qa := HA.out.cell
          have qb := HBb.out.cell
          have p0 := (hb.cell (p := ⟨b, o, none⟩) hbs).trans P0.out
          have r0 := (hb.cell (p := ⟨b', o', none⟩) hbs').trans R0.out
          gi_wp2_with fail
          clear qa qb p0 r0
          have r1 := (hb.cell (p := ⟨b', o' + 1, none⟩) hbs').trans R1.out
          have hbl := Nat.lt_of_lt_of_le hbs' hb.size
          have f0 := blk_cell HN0 1
          have f1 := blk_frozen HN0 1
          have f2 := HBb.out.cell
          have f3 := HBb.out.frozen
          have f4 := HD.out
          have f5 := Ne.symm nb
          gi_region
          have hs1 := HSs.out zs _ _ nn _ _ HX.out HN0 (by decide) no nw (grownBy_setCell2 _ nn 1 (.string ⟨(y.amt).toArray⟩))
          have hA1 := bx_far (i := 1) (u := (.string ⟨(y.amt).toArray⟩)) HBb.out (Ne.symm nb)
          have hB1 := bx_far (i := 1) (u := (.string ⟨(y.amt).toArray⟩)) HA.out (Ne.symm na)
          have hN1 := set_cells (.string ⟨(y.amt).toArray⟩) (j := 1) HN0
          have hs2 := HSs.out zs _ _ bb _ _ hs1 hA1 (by decide) hbo hbb (grownBy_setCell' _ bb (.slice D m1 (c' - 1)))
          replace hs2 := HM.out _ _ _ hs2 (below_drw _)
          have hA2 : Boxed _ bb 42 _ := (bx_below (Boxed.set (.slice D m1 (c' - 1)) hA1) (below_drw _))
          have hB2 : Boxed _ ab 42 _ := bx_below (bx_far (i := 0) (u := (.slice D m1 (c' - 1))) hB1 hne) (below_drw _)
          have hN2 := (Below.heap_setCell _ ⟨bb, 0, none⟩ (.slice D m1 (c' - 1)) nn nb).trans hN1
          obtain ⟨W3, hWb⟩ : ∃ Wb, Wb = ((W2.setCell ⟨nn, 1, none⟩ (.string ⟨(y.amt).toArray⟩)).setCell ⟨bb, 0, none⟩ (.slice D m1 (c' - 1))).drew := ⟨_, rfl⟩
          replace hN2 : W3.heap[nn]? = _ := (congrArg (fun W : World => W.heap[nn]?) hWb).trans hN2
          rw [← hWb] at hs2 hA2 hB2 ⊢
          clear HX HA HBb HN0 hb
          have HX := Lib.hid hs2
          have HBb := Lib.hid hA2
          have HA := Lib.hid hB2
          have HN0 := hN2
          have hb := HB.out _ _ HX.out
          clear hWb f0 f1 f2 f3 f4 f5 hs1 hs2 hA1 hB1 hN1 hA2 hB2 hN2 hbl r1
          have qa := HA.out.cell
          have qb := HBb.out.cell
          have p0 := (hb.cell (p := ⟨b, o, none⟩) hbs).trans P0.out
          have r0 := (hb.cell (p := ⟨b', o', none⟩) hbs').trans R0.out
          have u0 := blk_cell HN0 0
          have u1 := blk_cell HN0 1
          have hyy := HY.out zs (y.cur, [], y.amt) _ _ _ HX.out hy1 (Nat.zero_le 1000) hy2 (by omega) HA.out HBb.out
          have hyz : YieldAt Fence.wide (m - 1) Tryz.prog lw #[.string ⟨y.cur.toArray⟩, .agg #[.string ⟨#[]⟩, .string ⟨y.amt.toArray⟩]] _ _ := hyy
          clear hyy
          obtain ⟨fn, tmps, assign, body, hyr, hR⟩ := hyz
          gi_wp2
          refine ⟨fun h => (by cases h), hR.mono ?_⟩
          rintro e W9 ⟨rfl, hS9, hA9, hB9⟩
          have HS9 := Lib.hid hS9
          have HA9 := Lib.hid hA9
          have HB9 := Lib.hid hB9
          clear hS9 hA9 hB9 hR hyr HX HA HBb HN0 u0 u1 hb qa qb p0 r0
          gi_wp2
          go_roundw
          case rel => exact ⟨x :: r, s, _, D, n1 + 1, c, m1, c' - 1, zs ++ [(y.cur, [], y.amt)], HXL.out, HYN.out, by omega, by omega, by omega, by omega, HQ2.out, by rw [List.length_append, List.length_singleton]; omega, HS9.out, HA9.out, HB9.out⟩
          case measure =>
            have e1 := lenAt_eq HA9.out
            have e2 := lenAt_eq HB9.out
            have e3 := HLa.out
            have e4 := HLb.out
            rw [e1, e2, e3, e4]
            omega

end Go.Proofs.YtgnppdkeiihlfaaGreatDoor
namespace Go.Proofs.YtgnppdkeiihlfaaGreatDoor
open Num
/-- period and amount -/
abbrev PZ := Int × Int
/-- the value of payments, as it is computed: what there is, the period, the payments -/
def hv (x : Rat) : Rat → Int → List PZ → Rat
  | s, _, [] => s
  | s, a, p :: r => hv x (s * x ^ (p.1 - a).toNat + p.2) p.1 r
def valQ (x : Rat) : List PZ → Rat
  | [] => 0
  | p :: r => hv x 0 p.1 (p :: r)
/-- the sums of the periods -/
def grpL : Int → List PZ → List PZ
  | _, [] => []
  | s, p :: r => if r.head?.map (·.1) = some p.1 then grpL (s + p.2) r else (p.1, s + p.2) :: grpL 0 r
/-- the sums that are not 0 -/
def sumsL : Int → List PZ → List Int
  | _, [] => []
  | s, p :: r => if r.head?.map (·.1) = some p.1 then sumsL (s + p.2) r else if s + p.2 = 0 then sumsL 0 r else (s + p.2) :: sumsL 0 r
/-- how often signs change -/
def chL : Int → List Int → Nat
  | _, [] => 0
  | a, c :: r => (if cmpZ c 0 = a then 0 else 1) + chL (cmpZ c 0) r
def chN : List Int → Nat
  | [] => 0
  | c :: r => chL (cmpZ c 0) r
def sg1 : List Int → Int
  | [] => 0
  | c :: _ => cmpZ c 0
/-- periods that do not decrease -/
def UpL : Int → List PZ → Prop
  | _, [] => True
  | a, p :: r => a ≤ p.1 ∧ UpL p.1 r
def UpS : Int → List PZ → Prop
  | _, [] => True
  | a, p :: r => a < p.1 ∧ UpS p.1 r

theorem sumsL_grp : ∀ (l : List PZ) (s : Int), sumsL s l = ((grpL s l).map (·.2)).filter (fun c => decide (c ≠ 0))
  | [], s => rfl
  | p :: r, s => by
    unfold sumsL grpL
    by_cases h : r.head?.map (·.1) = some p.1
    · rw [if_pos h, if_pos h]; exact sumsL_grp r _
    · rw [if_neg h, if_neg h, List.map_cons, List.filter_cons]
      by_cases h0 : s + p.2 = 0
      · rw [if_pos h0, if_neg (by simp [h0])]; exact sumsL_grp r 0
      · rw [if_neg h0, if_pos (by simp [h0])]; rw [sumsL_grp r 0]
theorem grp_head : ∀ (l : List PZ) (s : Int) (p : PZ), l.head? = some p → ∃ c g, grpL s l = (p.1, c) :: g
  | [], s, p, h => by cases h
  | q :: r, s, p, h => by
    simp only [List.head?_cons, Option.some.injEq] at h
    subst h
    unfold grpL
    by_cases h : r.head?.map (·.1) = some q.1
    · rw [if_pos h]
      cases r with
      | nil => cases h
      | cons u t =>
        obtain ⟨c, g, e⟩ := grp_head (u :: t) (s + q.2) u rfl
        rw [e]
        simp only [List.head?_cons, Option.map_some, Option.some.injEq] at h
        exact ⟨c, g, by rw [h]⟩
    · rw [if_neg h]; exact ⟨_, _, rfl⟩
theorem hv_grp (x : Rat) : ∀ (l : List PZ), (∀ (T : Rat) (s : Int) (a : Int) (p : PZ), l.head? = some p → p.1 = a → hv x (T + s) a l = hv x T a (grpL s l)) ∧ (∀ (U : Rat) (a : Int), hv x U a l = hv x U a (grpL 0 l))
  | [] => ⟨(fun T s a p h => by cases h), fun U a => rfl⟩
  | q :: r => by
    have ih := hv_grp x r
    have hA : ∀ (T : Rat) (s : Int) (a : Int) (p : PZ), (q :: r).head? = some p → p.1 = a → hv x (T + s) a (q :: r) = hv x T a (grpL s (q :: r)) := by
      intro T s a p hp ha
      simp only [List.head?_cons, Option.some.injEq] at hp
      subst hp
      subst ha
      have e1 : hv x (T + s) q.1 (q :: r) = hv x (T + ((s + q.2 : Int) : Rat)) q.1 r := by
        show hv x ((T + s) * x ^ (q.1 - q.1).toNat + q.2) q.1 r = _
        rw [Int.sub_self, Int.toNat_zero, Rat.pow_zero, Rat.intCast_add]
        congr 1
        grind
      rw [e1]
      unfold grpL
      by_cases h : r.head?.map (·.1) = some q.1
      · rw [if_pos h]
        cases r with
        | nil => cases h
        | cons u t =>
          simp only [List.head?_cons, Option.map_some, Option.some.injEq] at h
          exact ih.1 T (s + q.2) q.1 u rfl h
      · rw [if_neg h]
        show _ = hv x (T * x ^ (q.1 - q.1).toNat + ((s + q.2 : Int) : Rat)) q.1 (grpL 0 r)
        rw [Int.sub_self, Int.toNat_zero, Rat.pow_zero, Rat.mul_one]
        exact ih.2 _ _
    refine ⟨hA, fun U a => ?_⟩
    have h1 := hA (U * x ^ (q.1 - a).toNat) 0 q.1 q rfl rfl
    obtain ⟨c, g, e⟩ := grp_head (q :: r) 0 q rfl
    rw [e] at h1 ⊢
    show hv x (U * x ^ (q.1 - a).toNat + q.2) q.1 r = hv x (U * x ^ (q.1 - a).toNat + c) q.1 g
    have h2 : hv x (U * x ^ (q.1 - a).toNat + ((0 : Int) : Rat)) q.1 (q :: r) = hv x (U * x ^ (q.1 - a).toNat + q.2) q.1 r := by
      show hv x ((U * x ^ (q.1 - a).toNat + ((0 : Int) : Rat)) * x ^ (q.1 - q.1).toNat + q.2) q.1 r = _
      rw [Int.sub_self, Int.toNat_zero, Rat.pow_zero]
      congr 1
      have : ((0 : Int) : Rat) = 0 := rfl
      grind
    rw [← h2, h1]
    show hv x (U * x ^ (q.1 - a).toNat * x ^ (q.1 - q.1).toNat + c) q.1 g = _
    rw [Int.sub_self, Int.toNat_zero, Rat.pow_zero, Rat.mul_one]
theorem val_grp (x : Rat) (l : List PZ) : valQ x l = valQ x (grpL 0 l) := by
  cases l with
  | nil => rfl
  | cons p r =>
    obtain ⟨c, g, e⟩ := grp_head (p :: r) 0 p rfl
    have h := (hv_grp x (p :: r)).2 0 p.1
    rw [e] at h ⊢
    exact h
theorem grp_up : ∀ (l : List PZ) (s a : Int), UpL a l → (∀ p, l.head? = some p → a < p.1) → UpS a (grpL s l)
  | [], s, a, _, _ => trivial
  | p :: r, s, a, h, h2 => by
    have h3 := h2 p rfl
    unfold grpL
    by_cases hh : r.head?.map (·.1) = some p.1
    · rw [if_pos hh]
      cases r with
      | nil => cases hh
      | cons u t =>
        simp only [List.head?_cons, Option.map_some, Option.some.injEq] at hh
        have h4 := h.2
        unfold UpL at h4
        exact grp_up (u :: t) _ a ⟨by omega, h4.2⟩ (fun q hq => by simp only [List.head?_cons, Option.some.injEq] at hq; subst hq; omega)
    · rw [if_neg hh]
      refine ⟨h3, grp_up r 0 p.1 h.2 (fun q hq => ?_)⟩
      cases r with
      | nil => cases hq
      | cons u t =>
        simp only [List.head?_cons, Option.some.injEq] at hq
        subst hq
        simp only [List.head?_cons, Option.map_some, Option.some.injEq] at hh
        have := h.2.1
        omega
theorem pow_pos' {x : Rat} (h : 0 < x) (n : Nat) : 0 < x ^ n := Rat.pow_pos h
theorem pow_le' {x y : Rat} (h : 0 < x) (h2 : x ≤ y) : ∀ n : Nat, x ^ n ≤ y ^ n
  | 0 => by rw [Rat.pow_zero, Rat.pow_zero]; exact Rat.le_refl
  | n + 1 => by
    rw [Rat.pow_succ, Rat.pow_succ]
    have ih := pow_le' h h2 n
    have h3 := pow_pos' h n
    have a1 : x ^ n * x ≤ x ^ n * y := Rat.mul_le_mul_of_nonneg_left h2 (Rat.le_of_lt h3)
    have a2 : x ^ n * y ≤ y ^ n * y := Rat.mul_le_mul_of_nonneg_right ih (by grind)
    grind
theorem pow_lt' {x y : Rat} (h : 0 < x) (h2 : x < y) {n : Nat} (hn : 0 < n) : x ^ n < y ^ n := by
  obtain ⟨k, rfl⟩ : ∃ k, n = k + 1 := ⟨n - 1, by omega⟩
  rw [Rat.pow_succ, Rat.pow_succ]
  have ih := pow_le' h (Rat.le_of_lt h2) k
  have h3 := pow_pos' h k
  have a1 : x ^ k * x < x ^ k * y := (Rat.mul_lt_mul_left h3).2 h2
  have a2 : x ^ k * y ≤ y ^ k * y := Rat.mul_le_mul_of_nonneg_right ih (by grind)
  grind
/-- the sign s times z -/
def sq (s : Int) (q : Rat) : Rat := (s : Rat) * q
theorem sq_add (s : Int) (p q : Rat) : sq s (p + q) = sq s p + sq s q := by unfold sq; grind
theorem sq_mul (s : Int) (p q : Rat) : sq s (p * q) = sq s p * q := by unfold sq; grind
theorem sq_int (s c : Int) : sq s (c : Rat) = ((s * c : Int) : Rat) := by unfold sq; rw [Rat.intCast_mul]
theorem phase2 (s : Int) {x y : Rat} (hx : 0 < x) (hxy : x < y) : ∀ (l : List PZ) (a : Int) (t t' : Rat), UpL a l → (∀ p ∈ l, s * p.2 ≤ 0) → (0 ≤ sq s t → sq s t < sq s t') → 0 ≤ sq s (hv x t a l) → sq s (hv x t a l) < sq s (hv y t' a l)
  | [], a, t, t', _, _, h, h0 => h h0
  | p :: r, a, t, t', hu, hs, h, h0 => by
    refine phase2 s hx hxy r p.1 _ _ hu.2 (fun q hq => hs q (List.mem_cons_of_mem _ hq)) (fun h1 => ?_) h0
    have hp := hs p (List.mem_cons_self ..)
    have hp2 : ((s * p.2 : Int) : Rat) ≤ ((0 : Int) : Rat) := Rat.intCast_le_intCast.2 hp
    rw [sq_add, sq_mul, sq_int] at h1 ⊢
    rw [sq_add, sq_mul, sq_int]
    have k1 := pow_pos' hx (p.1 - a).toNat
    have k2 := pow_le' hx (Rat.le_of_lt hxy) (p.1 - a).toNat
    have z : ((0 : Int) : Rat) = 0 := rfl
    rw [z] at hp2
    generalize ((s * p.2 : Int) : Rat) = c at *
    generalize sq s t = T at *
    generalize sq s t' = T' at *
    generalize x ^ (p.1 - a).toNat = X at *
    generalize y ^ (p.1 - a).toNat = Y at *
    have hT : 0 ≤ T := by
      have : 0 ≤ T * X := by grind
      by_cases hT : 0 ≤ T
      · exact hT
      · have : T * X < 0 * X := (Rat.mul_lt_mul_right k1).2 (by grind)
        grind
    have hT' := h hT
    have b1 : T * X < T' * X := (Rat.mul_lt_mul_right k1).2 hT'
    have b2 : T' * X ≤ T' * Y := Rat.mul_le_mul_of_nonneg_left k2 (by grind)
    grind
theorem cmpZ_cases (c : Int) : (c < 0 ∧ cmpZ c 0 = -1) ∨ (c = 0 ∧ cmpZ c 0 = 0) ∨ (0 < c ∧ cmpZ c 0 = 1) := by
  unfold cmpZ
  by_cases h : c < 0
  · left; exact ⟨h, if_pos h⟩
  · by_cases h2 : 0 < c
    · right; right; exact ⟨h2, by rw [if_neg h, if_pos h2]⟩
    · right; left; exact ⟨by omega, by rw [if_neg h, if_neg h2]⟩
/-- the sums of a grouped list that are not 0 -/
def nz (l : List PZ) : List Int := (l.map (·.2)).filter (fun c => decide (c ≠ 0))
theorem nz_cons0 (p : PZ) (r : List PZ) (h : p.2 = 0) : nz (p :: r) = nz r := by unfold nz; rw [List.map_cons, List.filter_cons, if_neg (by simp [h])]
theorem nz_cons1 (p : PZ) (r : List PZ) (h : p.2 ≠ 0) : nz (p :: r) = p.2 :: nz r := by unfold nz; rw [List.map_cons, List.filter_cons, if_pos (by simp [h])]
theorem ch0 (s : Int) (hs : s = 1 ∨ s = -1) : ∀ l : List PZ, chL s (nz l) = 0 → ∀ p ∈ l, 0 ≤ s * p.2
  | [], _, p, hp => by cases hp
  | q :: r, h, p, hp => by
    by_cases h0 : q.2 = 0
    · rw [nz_cons0 q r h0] at h
      rcases List.mem_cons.1 hp with rfl | hp
      · rw [h0]; omega
      · exact ch0 s hs r h p hp
    · rw [nz_cons1 q r h0] at h
      unfold chL at h
      by_cases e : cmpZ q.2 0 = s
      · rw [if_pos e, e] at h
        rcases List.mem_cons.1 hp with rfl | hp
        · rcases cmpZ_cases p.2 with h1 | h1 | h1 <;> rcases hs with rfl | rfl <;> omega
        · exact ch0 s hs r (by omega) p hp
      · rw [if_neg e] at h; omega
theorem upS_L : ∀ (l : List PZ) (a : Int), UpS a l → UpL a l
  | [], _, _ => trivial
  | p :: r, a, h => ⟨by have := h.1; omega, upS_L r p.1 h.2⟩
theorem phase1 (s : Int) (hs : s = 1 ∨ s = -1) {x y : Rat} (hx : 0 < x) (hxy : x < y) : ∀ (l : List PZ) (a : Int) (t t' : Rat), UpS a l → chL s (nz l) = 1 → 0 < sq s t → sq s t ≤ sq s t' → 0 ≤ sq s (hv x t a l) → sq s (hv x t a l) < sq s (hv y t' a l)
  | [], a, t, t', _, h, _, _, _ => by unfold nz at h; simp [chL] at h
  | p :: r, a, t, t', hu, hc, h1, h2, h0 => by
    have k1 := pow_pos' hx (p.1 - a).toNat
    have k2 := pow_lt' hx hxy (n := (p.1 - a).toNat) (by have := hu.1; omega)
    have e1 : sq s (t * x ^ (p.1 - a).toNat + p.2) = sq s t * x ^ (p.1 - a).toNat + ((s * p.2 : Int) : Rat) := by rw [sq_add, sq_mul, sq_int]
    have e2 : sq s (t' * y ^ (p.1 - a).toNat + p.2) = sq s t' * y ^ (p.1 - a).toNat + ((s * p.2 : Int) : Rat) := by rw [sq_add, sq_mul, sq_int]
    have b1 : sq s t * x ^ (p.1 - a).toNat < sq s t * y ^ (p.1 - a).toNat := (Rat.mul_lt_mul_left h1).2 k2
    have b2 : sq s t * y ^ (p.1 - a).toNat ≤ sq s t' * y ^ (p.1 - a).toNat := Rat.mul_le_mul_of_nonneg_right h2 (by grind)
    have b3 : 0 < sq s t * x ^ (p.1 - a).toNat := Rat.mul_pos h1 k1
    have keep : chL s (nz r) = 1 → 0 ≤ s * p.2 → sq s (hv x t a (p :: r)) < sq s (hv y t' a (p :: r)) := fun hc hp => by
      have hp2 : ((0 : Int) : Rat) ≤ ((s * p.2 : Int) : Rat) := Rat.intCast_le_intCast.2 hp
      have z : ((0 : Int) : Rat) = 0 := rfl
      exact phase1 s hs hx hxy r p.1 _ _ hu.2 hc (by rw [e1]; grind) (by rw [e1, e2]; grind) h0
    by_cases hz : p.2 = 0
    · rw [nz_cons0 p r hz] at hc
      exact keep hc (by rw [hz]; omega)
    · rw [nz_cons1 p r hz] at hc
      unfold chL at hc
      by_cases e : cmpZ p.2 0 = s
      · rw [if_pos e, e] at hc
        refine keep (by omega) ?_
        rcases cmpZ_cases p.2 with g | g | g <;> rcases hs with rfl | rfl <;> omega
      · rw [if_neg e] at hc
        have em : cmpZ p.2 0 = -s := by rcases cmpZ_cases p.2 with g | g | g <;> rcases hs with rfl | rfl <;> omega
        rw [em] at hc
        refine phase2 s hx hxy r p.1 _ _ (upS_L _ _ hu.2) (fun q hq => ?_) (fun _ => by rw [e1, e2]; grind) h0
        have := ch0 (-s) (by omega) r (by omega) q hq
        rw [Int.neg_mul] at this
        omega
theorem phase0 {x y : Rat} (hx : 0 < x) (hxy : x < y) : ∀ (l : List PZ) (a : Int), UpS a l → chN (nz l) = 1 → 0 ≤ sq (sg1 (nz l)) (hv x 0 a l) → sq (sg1 (nz l)) (hv x 0 a l) < sq (sg1 (nz l)) (hv y 0 a l)
  | [], a, _, h, _ => by simp [nz, chN] at h
  | p :: r, a, hu, hc, h0 => by
    by_cases hz : p.2 = 0
    · rw [nz_cons0 p r hz] at hc h0 ⊢
      have e : ∀ z : Rat, hv z 0 a (p :: r) = hv z 0 p.1 r := fun z => by
        show hv z (0 * z ^ (p.1 - a).toNat + p.2) p.1 r = _
        rw [hz]; congr 1
        have z : ((0 : Int) : Rat) = 0 := rfl
        grind
      rw [e] at h0 ⊢
      rw [e]
      exact phase0 hx hxy r p.1 hu.2 hc h0
    · rw [nz_cons1 p r hz] at hc h0 ⊢
      unfold chN at hc
      unfold sg1 at h0 ⊢
      have hs : cmpZ p.2 0 = 1 ∨ cmpZ p.2 0 = -1 := by rcases cmpZ_cases p.2 with g | g | g <;> omega
      have e : ∀ z : Rat, hv z 0 a (p :: r) = hv z p.2 p.1 r := fun z => by
        show hv z (0 * z ^ (p.1 - a).toNat + p.2) p.1 r = _
        congr 1
        grind
      rw [e] at h0 ⊢
      rw [e]
      refine phase1 _ hs hx hxy r p.1 _ _ hu.2 hc ?_ Rat.le_refl h0
      rw [sq_int]
      have z : ((0 : Int) : Rat) = 0 := rfl
      rw [← z]
      refine Rat.intCast_lt_intCast.2 ?_
      rcases cmpZ_cases p.2 with g | g | g
      · rw [g.2]; omega
      · omega
      · rw [g.2]; omega
theorem sums_nz (l : List PZ) : sumsL 0 l = nz (grpL 0 l) := sumsL_grp l 0
theorem val_hv (x : Rat) (l : List PZ) (a : Int) : valQ x l = hv x 0 a l := by
  cases l with
  | nil => rfl
  | cons p r =>
    show hv x (0 * x ^ (p.1 - p.1).toNat + p.2) p.1 r = hv x (0 * x ^ (p.1 - a).toNat + p.2) p.1 r
    rw [Rat.zero_mul, Rat.zero_mul]
/-- beyond the root the value keeps its sign -/
theorem cross {x y : Rat} (hx : 0 < x) (hxy : x < y) (l : List PZ) (a : Int) (hu : UpL a l) (hc : chN (sumsL 0 l) = 1) (h0 : 0 ≤ sq (sg1 (sumsL 0 l)) (valQ x l)) : sq (sg1 (sumsL 0 l)) (valQ x l) < sq (sg1 (sumsL 0 l)) (valQ y l) := by
  rw [sums_nz] at *
  rw [val_grp x l] at *
  rw [val_grp y l]
  rw [val_hv x _ (a - 1)] at *
  rw [val_hv y _ (a - 1)]
  refine phase0 hx hxy _ _ (grp_up l 0 (a - 1) ?_ ?_) hc h0
  · cases l with
    | nil => trivial
    | cons p r => exact ⟨by have := hu.1; omega, hu.2⟩
  · intro p hp
    cases l with
    | nil => cases hp
    | cons q r => simp only [List.head?_cons, Option.some.injEq] at hp; subst hp; have := hu.1; omega
/-- the sum of what the amounts are without their signs -/
def absS : List PZ → Int
  | [] => 0
  | p :: r => p.2.natAbs + absS r
/-- where a number stands to the root -/
def placeQ (s : Int) (l : List PZ) (x : Rat) : Int := if x = 0 then -1 else s * cmpQ (valQ x l) 0
/-- the greatest number of units that is not greater than the root -/
structure Root (l : List PZ) (u z : Int) : Prop where
  nn : 0 ≤ z
  le : z ≤ (1 + absS l) * u
  iff : ∀ y, 1 ≤ y → (placeQ (sg1 (sumsL 0 l)) l (Rat.divInt y u) ≤ 0 ↔ y ≤ z)
theorem Root.uniq {l l' : List PZ} {u z z' : Int} (h : Root l u z) (h' : Root l' u z') (e : ∀ x : Rat, 0 < x → placeQ (sg1 (sumsL 0 l)) l x = placeQ (sg1 (sumsL 0 l')) l' x) (hu : 0 < u) : z = z' := by
  have hp : ∀ y : Int, 1 ≤ y → (0 : Rat) < Rat.divInt y u := fun y hy => by
    rw [Rat.divInt_eq_div, Rat.div_def]
    exact Rat.mul_pos (by simpa using (Rat.intCast_pos.2 (by omega : 0 < y))) (Rat.inv_pos.2 (by simpa using (Rat.intCast_pos.2 hu)))
  have a := h.nn
  have b := h'.nn
  apply Int.le_antisymm
  · by_cases h0 : z = 0
    · omega
    · have := (h'.iff z (by omega)).1
      rw [← e _ (hp z (by omega))] at this
      exact this ((h.iff z (by omega)).2 (Int.le_refl _))
  · by_cases h0 : z' = 0
    · omega
    · have := (h.iff z' (by omega)).1
      rw [e _ (hp z' (by omega))] at this
      exact this ((h'.iff z' (by omega)).2 (Int.le_refl _))
theorem sg1_cases {l : List PZ} (h : chN (sumsL 0 l) = 1) : sg1 (sumsL 0 l) = 1 ∨ sg1 (sumsL 0 l) = -1 := by
  rw [sums_nz] at *
  generalize grpL 0 l = g at *
  induction g with
  | nil => simp [nz, chN] at h
  | cons p r ih =>
    by_cases hz : p.2 = 0
    · rw [nz_cons0 p r hz] at h ⊢; exact ih h
    · rw [nz_cons1 p r hz] at h ⊢
      show cmpZ p.2 0 = 1 ∨ cmpZ p.2 0 = -1
      rcases cmpZ_cases p.2 with g | g | g <;> omega
theorem cmpQ_sq {s : Int} (hs : s = 1 ∨ s = -1) (q : Rat) : (s * cmpQ q 0 ≤ 0 ↔ sq s q ≤ 0) ∧ (0 ≤ s * cmpQ q 0 ↔ 0 ≤ sq s q) := by
  have e := cmpQ_if q 0
  unfold sq
  have o : ((1 : Int) : Rat) = 1 := rfl
  have o2 : ((-1 : Int) : Rat) = -1 := rfl
  rcases hs with rfl | rfl
  · rw [o, e]
    by_cases h1 : q < 0
    · rw [if_pos h1]; constructor <;> constructor <;> intro h <;> first | omega | grind
    · rw [if_neg h1]
      by_cases h2 : 0 < q
      · rw [if_pos h2]; constructor <;> constructor <;> intro h <;> first | omega | grind
      · rw [if_neg h2]; constructor <;> constructor <;> intro h <;> first | omega | grind
  · rw [o2, e]
    by_cases h1 : q < 0
    · rw [if_pos h1]; constructor <;> constructor <;> intro h <;> first | omega | grind
    · rw [if_neg h1]
      by_cases h2 : 0 < q
      · rw [if_pos h2]; constructor <;> constructor <;> intro h <;> first | omega | grind
      · rw [if_neg h2]; constructor <;> constructor <;> intro h <;> first | omega | grind
theorem divInt_pos {y u : Int} (hy : 1 ≤ y) (hu : 0 < u) : (0 : Rat) < Rat.divInt y u := by
  rw [Rat.divInt_eq_div, Rat.div_def]
  exact Rat.mul_pos (by simpa using (Rat.intCast_pos.2 (by omega : 0 < y))) (Rat.inv_pos.2 (by simpa using (Rat.intCast_pos.2 hu)))
theorem place_sign {l : List PZ} (hc : chN (sumsL 0 l) = 1) {x : Rat} (hx : 0 < x) : (placeQ (sg1 (sumsL 0 l)) l x ≤ 0 ↔ sq (sg1 (sumsL 0 l)) (valQ x l) ≤ 0) ∧ (0 ≤ placeQ (sg1 (sumsL 0 l)) l x ↔ 0 ≤ sq (sg1 (sumsL 0 l)) (valQ x l)) := by
  unfold placeQ
  rw [if_neg (by grind)]
  exact cmpQ_sq (sg1_cases hc) _
def topZ (l : List PZ) (u z : Int) : Int := if placeQ (sg1 (sumsL 0 l)) l (Rat.divInt z u) = 0 then z else z + 1
theorem divInt_zero' (u : Int) : Rat.divInt 0 u = 0 := Rat.zero_divInt u
theorem place0 (s : Int) (l : List PZ) : placeQ s l 0 = -1 := by unfold placeQ; rw [if_pos rfl]
theorem Root.low {l : List PZ} {u z : Int} (h : Root l u z) : placeQ (sg1 (sumsL 0 l)) l (Rat.divInt z u) ≤ 0 := by
  have := h.nn
  by_cases h0 : z = 0
  · rw [h0, divInt_zero', place0]; decide
  · exact (h.iff z (by omega)).2 (Int.le_refl _)
theorem Root.next {l : List PZ} {u z : Int} (h : Root l u z) : 0 < placeQ (sg1 (sumsL 0 l)) l (Rat.divInt (z + 1) u) := by
  have := h.nn
  have h2 := h.iff (z + 1) (by omega)
  by_cases h3 : placeQ (sg1 (sumsL 0 l)) l (Rat.divInt (z + 1) u) ≤ 0
  · have := h2.1 h3; omega
  · omega
theorem Root.top_pos {l : List PZ} {u z : Int} (h : Root l u z) : 1 ≤ topZ l u z := by
  have := h.nn
  unfold topZ
  split
  · rename_i e
    by_cases h0 : z = 0
    · rw [h0, divInt_zero', place0] at e; cases e
    · omega
  · omega
theorem sign_of_sq {s : Int} (hs : s = 1 ∨ s = -1) (q : Rat) : (sq s q < 0 → cmpQ q 0 = -s) ∧ (0 < sq s q → cmpQ q 0 = s) := by
  have e := cmpQ_if q 0
  unfold sq
  have o : ((1 : Int) : Rat) = 1 := rfl
  have o2 : ((-1 : Int) : Rat) = -1 := rfl
  rcases hs with rfl | rfl
  · rw [o, e]
    refine ⟨fun h => ?_, fun h => ?_⟩
    · rw [if_pos (by grind)]
    · rw [if_neg (by grind), if_pos (by grind)]
  · rw [o2, e]
    refine ⟨fun h => ?_, fun h => ?_⟩
    · rw [if_neg (by grind), if_pos (by grind)]; decide
    · rw [if_pos (by grind)]
theorem Root.below {l : List PZ} {a u z : Int} (hl : UpL a l) (hc : chN (sumsL 0 l) = 1) (h0 : 0 < u) (h : Root l u z) {x : Rat} (hx : 0 < x) (hlt : x < Rat.divInt z u) : cmpQ (valQ x l) 0 = -sg1 (sumsL 0 l) := by
  refine (sign_of_sq (sg1_cases hc) _).1 ?_
  have hz : 1 ≤ z := by
    have := h.nn
    by_cases e : z = 0
    · rw [e, divInt_zero'] at hlt; grind
    · omega
  have p1 := ((place_sign hc (divInt_pos hz h0)).1).1 h.low
  by_cases hh : 0 ≤ sq (sg1 (sumsL 0 l)) (valQ x l)
  · have := cross hx hlt l a hl hc hh
    grind
  · grind
/-! the first and the last sign -/
/-! Two payments. -/
/-! Lists that say the same. -/
/-! Sums of lists. -/
end Go.Proofs.YtgnppdkeiihlfaaGreatDoor
namespace Go.Proofs.YtgnppdkeiihlfaaGreatDoor
open Go.RowKit Num
/-- a call that returns v and keeps what lay, in every memory that keeps what lay in w -/
def RetB (w : World) (f : Nat) (args : Array Value) (v : Value) : Prop := ∀ w' : World, Below w.heap.size w w' → Calls Tryz.prog f args w' fun e w'' => e = .returned v ∧ Below w'.heap.size w' w''
theorem RetB.of {w w' : World} {f : Nat} {args : Array Value} {v : Value} (h : RetB w f args v) (_ : Glob w) (hb : Below w.heap.size w w') : Calls Tryz.prog f args w' fun e w'' => e = .returned v ∧ Below w'.heap.size w' w'' := h w' hb
theorem Ret.b {w : World} {f : Nat} {args : Array Value} {v : Value} (h : Ret f args v) (hG : Glob w) : RetB w f args v := fun _ hb => h.of hG hb
theorem RetB.below {w w1 : World} {f : Nat} {args : Array Value} {v : Value} (h : RetB w f args v) (hb : Below w.heap.size w w1) : RetB w1 f args v := fun _ hb' => h _ (bto hb hb')
/-- a payment -/
structure Pay where
  per : Int
  amt : List UInt8
/-- a slice of payments -/
def PayAt (w : World) (A : Option Addr) (ps : List Pay) : Prop := ∀ (i : Nat) (t : Pay), ps[i]? = some t → ∃ b o, A = some ⟨b, o, none⟩ ∧ b < w.heap.size ∧ w.cell? ⟨b, o + i * 2, none⟩ = some (.int .i64 t.per) ∧ w.cell? ⟨b, o + i * 2 + 1, none⟩ = some (.string ⟨t.amt.toArray⟩)
theorem PayAt.below {w w' : World} {A : Option Addr} {ps : List Pay} (h : PayAt w A ps) (hb : Below w.heap.size w w') : PayAt w' A ps := fun i t ht => by
  obtain ⟨b, o, rfl, h1, h2, h3⟩ := h i t ht
  exact ⟨b, o, rfl, Nat.lt_of_lt_of_le h1 hb.size, (hb.cell (p := ⟨b, o + i * 2, none⟩) h1).trans h2, (hb.cell (p := ⟨b, o + i * 2 + 1, none⟩) h1).trans h3⟩
end Go.Proofs.YtgnppdkeiihlfaaGreatDoor
namespace Go.Proofs.YtgnppdkeiihlfaaGreatDoor
open Go.RowKit Num
section
variable {l l' : List UInt8}
end
end Go.Proofs.YtgnppdkeiihlfaaGreatDoor
namespace Go.Proofs.YtgnppdkeiihlfaaGreatDoor
open Go.RowKit Num
open Go.Op (bytesLess)
def ordM : Option (List UInt8) → List UInt8 → Bool
  | none, _ => false
  | some p, c => !bytesLess p c
/-- why amounts are no bag -/
def bagL : Option (List UInt8) → List Mon → Int
  | _, [] => 0
  | o, x :: r => if ¬ codeB x.cur = true then 23 else if ¬ x.amt = canon (val x.amt) then 1 else if x.amt = [] then 11 else if ordM o x.cur = true then 8 else bagL (some x.cur) r
def bagE (ts : List Mon) : Int := if 16 < ts.length then 4 else bagL none ts
def prevC (ts : List Mon) : Nat → Option (List UInt8)
  | 0 => none
  | k + 1 => (ts[k]?).map (·.cur)
theorem bagL_step {ts : List Mon} {k : Nat} {x : Mon} (h : ts[k]? = some x) : bagL (prevC ts k) (ts.drop k) = if ¬ codeB x.cur = true then 23 else if ¬ x.amt = canon (val x.amt) then 1 else if x.amt = [] then 11 else if ordM (prevC ts k) x.cur = true then 8 else bagL (prevC ts (k + 1)) (ts.drop (k + 1)) := by
  obtain ⟨hk, rfl⟩ := List.getElem?_eq_some_iff.1 h
  have e : prevC ts (k + 1) = some ts[k].cur := by show (ts[k]?).map (·.cur) = _; rw [h]; rfl
  rw [List.drop_eq_getElem_cons hk, e]; rfl
theorem bagL_end {ts : List Mon} {k : Nat} (h : ts.length ≤ k) : bagL (prevC ts k) (ts.drop k) = 0 := by rw [List.drop_of_length_le h]; cases prevC ts k <;> rfl
/-- amounts within the statements' sizes, in memory -/
structure ML (w : World) (A : Option Addr) (ts : List Mon) (n : Nat) : Prop where
  len : ts.length = n
  sm : n ≤ 1000
  str : ∀ t ∈ ts, t.cur.length ≤ 1000 ∧ t.amt.length ≤ 1000
  mem : MonAt w A ts
theorem ML.below {w w' : World} {A : Option Addr} {ts : List Mon} {n : Nat} (h : ML w A ts n) (hb : Below w.heap.size w w') : ML w' A ts n := ⟨h.len, h.sm, h.str, h.mem.below hb⟩
set_option maxHeartbeats 8000000 in
set_option maxRecDepth 100000 in
theorem mCheck (A : Option Addr) (ts : List Mon) (n c : Nat) (w : World) (hG : Glob w) (h : ML w A ts n) :
    Calls Tryz.prog 79 #[.slice A n c] w fun e w' => e = .returned (.int .i64 (bagE ts)) ∧ Below w.heap.size w w' := by
  obtain ⟨hn, hn67, hs, h⟩ := h
  by_cases h4 : 16 < n
  · have HV : Hid (bagE ts = 4) := by show _ = _; unfold bagE; rw [if_pos (by omega)]
    have e1 : decide (16 < n) = true := decide_eq_true h4
    clear hn hs h
    go_enter Tryz.func79, Tryz.ntmps79
    go_wp2
    go_ret
    exact ⟨reti HV.out.symm, Below.refl _ _⟩
  have e1 : decide (16 < n) = false := decide_eq_false h4
  have HE : Hid (bagE ts = bagL none ts) := by show _ = _; unfold bagE; rw [if_neg (by omega)]
  have HI := Lib.hid h
  have HS := Lib.hid hs
  have HNn := Lib.hid hn
  clear h hn hs
  go_enter Tryz.func79, Tryz.ntmps79
  go_wp2_with fail
  clear e1
  go_loopw [10] (fun iv wr => ∃ k : Nat, k ≤ n ∧ iv = .int .i64 (k : Int) ∧ Hid (bagL none ts = bagL (prevC ts k) (ts.drop k)) ∧ Below w.heap.size w wr) (fun iv _ => n - (intOf iv).toNat)
  case atStart => exact ⟨0, Nat.zero_le _, rfl, rfl, Below.refl _ _⟩
  case round =>
    obtain ⟨k, hk, rfl, HK, hb⟩ := hrel
    have hnl := HNn.out
    by_cases hlk : k < n
    rotate_left
    · have HV : Hid (bagE ts = 0) := by show _ = _; rw [HE.out, HK.out, bagL_end (by omega)]
      clear HK HE HI HS
      go_wp2
      go_ret
      exact ⟨reti HV.out.symm, hb⟩
    obtain ⟨t, ht⟩ : ∃ t, ts[k]? = some t := ⟨_, List.getElem?_eq_getElem (by omega)⟩
    obtain ⟨b, o, hA, hbs, p0, p1⟩ := (HI.out.below hb) k t ht
    subst hA
    obtain ⟨hv40, hf40⟩ := HS.out t (List.mem_of_getElem? ht)
    have HN := Lib.hid (bagL_step ht)
    have CD := Lib.hid (mCode (l := t.cur) (by omega))
    have hbA := below_alloc wr (.cells #[.string ⟨t.cur.toArray⟩, .string ⟨t.amt.toArray⟩] 48)
    have x4 := FBox.new wr (.string ⟨t.cur.toArray⟩) (.string ⟨t.amt.toArray⟩) 48
    replace hb := bto hb hbA
    have hbs := Nat.lt_of_lt_of_le hbs hbA.size
    clear hbA
    clear ht
    by_cases gd : codeB t.cur = true
    rotate_left
    · have HG := Lib.hid gd
      have e1 := not_true_b gd
      rw [e1] at CD
      clear gd e1
      skip
      have q0 := x4.c0
      have q1 := x4.c1
      go_wp2_with fail
      ((with_reducible refine (CD.out.of hG hb).mono ?_); rintro e w10 ⟨rfl, hb10⟩)
      clear q0 q1
      replace x4 := x4.below hb10
      replace hbs := Nat.lt_of_lt_of_le hbs hb10.size
      replace hb := bto hb hb10
      clear hb10
      have HV : Hid (bagE ts = 23) := by show _ = _; rw [HE.out, HK.out, HN.out, if_pos HG.out]
      clear HK HN HE HI HS
      have q0 := x4.c0
      have q1 := x4.c1
      go_wp2
      go_ret
      exact ⟨reti HV.out.symm, hb⟩
    have HGd := Lib.hid (fun (h : ¬ codeB t.cur = true) => h gd)
    rw [gd] at CD
    clear gd
    have q0 := x4.c0
    have q1 := x4.c1
    go_wp2_with fail
    ((with_reducible refine (CD.out.of hG hb).mono ?_); rintro e w11 ⟨rfl, hb11⟩)
    clear q0 q1
    replace x4 := x4.below hb11
    replace hbs := Nat.lt_of_lt_of_le hbs hb11.size
    replace hb := bto hb hb11
    clear hb11
    clear CD
    clear p0 p1
    by_cases gv : t.amt = canon (val t.amt)
    rotate_left
    · have CC := Lib.hid (riCheck (l := t.amt) (c := 1) (by omega) (if_neg gv))
      have HB := Lib.hid gv
      clear gv
      have q0 := x4.c0
      have q1 := x4.c1
      go_wp2_with fail
      ((with_reducible refine (CC.out.of hG hb).mono ?_); rintro e w12 ⟨rfl, hb12⟩)
      clear q0 q1
      replace x4 := x4.below hb12
      replace hbs := Nat.lt_of_lt_of_le hbs hb12.size
      replace hb := bto hb hb12
      clear hb12
      have HV : Hid (bagE ts = 1) := by show _ = _; rw [HE.out, HK.out, HN.out, if_neg HGd.out, if_pos HB.out]
      clear HK HN HE HI HS
      have q0 := x4.c0
      have q1 := x4.c1
      go_wp2
      go_ret
      exact ⟨reti HV.out.symm, hb⟩
    have CC := Lib.hid (riCheck (l := t.amt) (c := 0) (by omega) (if_pos gv))
    have HGv := Lib.hid (fun (h : ¬ t.amt = canon (val t.amt)) => h gv)
    clear gv
    have q0 := x4.c0
    have q1 := x4.c1
    go_wp2_with fail
    ((with_reducible refine (CC.out.of hG hb).mono ?_); rintro e w13 ⟨rfl, hb13⟩)
    clear q0 q1
    replace x4 := x4.below hb13
    replace hbs := Nat.lt_of_lt_of_le hbs hb13.size
    replace hb := bto hb hb13
    clear hb13
    clear CC
    by_cases ge : t.amt = []
    · have HC := Lib.hid ge
      have e1 : (t.amt == []) = true := by rw [beq_iff_eq]; exact ge
      have e2 : (t.amt).isEmpty = true := by rw [List.isEmpty_iff]; exact ge
      clear ge
      have HV : Hid (bagE ts = 11) := by show _ = _; rw [HE.out, HK.out, HN.out, if_neg HGd.out, if_neg HGv.out, if_pos HC.out]
      clear HK HN HE HI HS
      have q0 := x4.c0
      have q1 := x4.c1
      go_wp2
      go_ret
      exact ⟨reti HV.out.symm, hb⟩
    have HC := Lib.hid ge
    have e1 : (t.amt == []) = false := by rw [beq_eq_false_iff_ne]; exact ge
    have e2 : (t.amt).isEmpty = false := by rw [List.isEmpty_eq_false_iff]; exact ge
    clear ge
    have q0 := x4.c0
    have q1 := x4.c1
    go_wp2_with fail
    clear q0 q1
    clear e1 e2
    cases k with
    | zero =>
      have HV : Hid (bagL none ts = bagL (prevC ts (0 + 1)) (ts.drop (0 + 1))) := by show _ = _; rw [HK.out, HN.out, if_neg HGd.out, if_neg HGv.out, if_neg HC.out, if_neg (show ¬ ordM (prevC ts 0) t.cur = true from fun h => by cases h)]
      clear HK HN
      refine wp_region_kept (by kernel_rfl) (by kernel_rfl) ?_
      refine kept_val _ (fun _ => rfl) (fun ρ w hw => by go_simp; first | done | with_reducible rfl) ?_
      simp only [Act.put, List.setIfInBounds_toArray, List.set_cons_zero, List.set_cons_succ, Nat.reduceAdd]
      refine kept_val _ (fun _ => rfl) (fun ρ w hw => by go_simp; first | done | with_reducible rfl) ?_
      simp only [Act.put, List.setIfInBounds_toArray, List.set_cons_zero, List.set_cons_succ, Nat.reduceAdd]
      refine kept_val _ (fun _ => rfl) (fun ρ w hw => by go_simp; first | done | with_reducible rfl) ?_
      simp only [Act.put, List.setIfInBounds_toArray, List.set_cons_zero, List.set_cons_succ, Nat.reduceAdd]
      refine kept_off (fun _ => rfl) ?_
      simp only [Act.put, List.setIfInBounds_toArray, List.set_cons_zero, List.set_cons_succ, Nat.reduceAdd]
      refine kept_off (fun _ => rfl) ?_
      simp only [Act.put, List.setIfInBounds_toArray, List.set_cons_zero, List.set_cons_succ, Nat.reduceAdd]
      refine kept_off (fun _ => rfl) ?_
      simp only [Act.put, List.setIfInBounds_toArray, List.set_cons_zero, List.set_cons_succ, Nat.reduceAdd]
      refine kept_off (fun _ => rfl) ?_
      simp only [Act.put, List.setIfInBounds_toArray, List.set_cons_zero, List.set_cons_succ, Nat.reduceAdd]
      refine kept_off (fun _ => rfl) ?_
      simp only [Act.put, List.setIfInBounds_toArray, List.set_cons_zero, List.set_cons_succ, Nat.reduceAdd]
      refine kept_off (fun _ => rfl) ?_
      simp only [Act.put, List.setIfInBounds_toArray, List.set_cons_zero, List.set_cons_succ, Nat.reduceAdd]
      refine kept_off (fun _ => rfl) ?_
      simp only [Act.put, List.setIfInBounds_toArray, List.set_cons_zero, List.set_cons_succ, Nat.reduceAdd]
      refine kept_off (fun _ => rfl) ?_
      simp only [Act.put, List.setIfInBounds_toArray, List.set_cons_zero, List.set_cons_succ, Nat.reduceAdd]
      refine kept_off (fun _ => rfl) ?_
      simp only [Act.put, List.setIfInBounds_toArray, List.set_cons_zero, List.set_cons_succ, Nat.reduceAdd]
      refine kept_val _ (fun _ => rfl) (fun ρ w hw => by go_simp; first | done | with_reducible rfl) ?_
      simp only [Act.put, List.setIfInBounds_toArray, List.set_cons_zero, List.set_cons_succ, Nat.reduceAdd]
      refine kept_val _ (fun _ => rfl) (fun ρ w hw => by go_simp; first | done | with_reducible rfl) ?_
      simp only [Act.put, List.setIfInBounds_toArray, List.set_cons_zero, List.set_cons_succ, Nat.reduceAdd]
      refine kept_end (fun ρ w20 hF => ?_)
      have hbF := hF.below
      clear hF
      replace x4 := x4.below hbF
      replace hb := bto hb hbF
      clear hbF
      go_wp2
      go_roundw
      case rel => exact ⟨0 + 1, by omega, by go_num, HV.out, hb⟩
      case measure => simp [intOf]; omega
    | succ k' =>
      obtain ⟨u, hu⟩ : ∃ u, ts[k']? = some u := ⟨_, List.getElem?_eq_getElem (by omega)⟩
      obtain ⟨b', o', hA', hbs', r0, -⟩ := (HI.out.below hb) k' u hu
      obtain ⟨rfl, rfl⟩ : b = b' ∧ o = o' := by injection hA' with hA'; injection hA' with h1 h2; exact ⟨h1, h2⟩
      have hpd : prevC ts (k' + 1) = some u.cur := by show (ts[k']?).map (·.cur) = _; rw [hu]; rfl
      have HPd := Lib.hid hpd
      have hwr : IntKind.i64.wrap (k' : Int) = (k' : Int) := Go.IntWalk.i64_in _ (by omega)
      have hkn : k' < n := by omega
      have kk1 : (0 : Int) ≤ (k' : Int) + 1 := by omega
      have kk2 : (k' : Int) + 1 < (n : Int) := by omega
      clear hu hA' hpd hbs'
      cases hlt : bytesLess u.cur t.cur
      · have HB : Hid (ordM (prevC ts (k' + 1)) t.cur = true) := by show _ = _; rw [HPd.out]; show (!bytesLess u.cur t.cur) = true; rw [hlt]; rfl
        refine wp_region_kept (by kernel_rfl) (by kernel_rfl) ?_
        refine kept_val _ (fun _ => rfl) (fun ρ w hw => by go_simp; first | done | with_reducible rfl) ?_
        simp only [Act.put, List.setIfInBounds_toArray, List.set_cons_zero, List.set_cons_succ, Nat.reduceAdd]
        refine kept_val (.bool true) (fun _ => rfl) (fun ρ w hw => by go_simp; first | done | omega | (simp; omega)) ?_
        simp only [Act.put, List.setIfInBounds_toArray, List.set_cons_zero, List.set_cons_succ, Nat.reduceAdd]
        refine kept_val _ (fun _ => rfl) (fun ρ w hw => by go_simp; first | done | with_reducible rfl) ?_
        simp only [Act.put, List.setIfInBounds_toArray, List.set_cons_zero, List.set_cons_succ, Nat.reduceAdd]
        refine kept_val _ (fun _ => rfl) (fun ρ w hw => by go_simp; first | done | with_reducible rfl) ?_
        simp only [Act.put, List.setIfInBounds_toArray, List.set_cons_zero, List.set_cons_succ, Nat.reduceAdd]
        refine kept_val _ (fun _ => rfl) (fun ρ w hw => by go_simp; first | done | with_reducible rfl) ?_
        simp only [Act.put, List.setIfInBounds_toArray, List.set_cons_zero, List.set_cons_succ, Nat.reduceAdd]
        refine kept_val _ (fun _ => rfl) (fun ρ w hw => by go_simp; first | done | with_reducible rfl) ?_
        simp only [Act.put, List.setIfInBounds_toArray, List.set_cons_zero, List.set_cons_succ, Nat.reduceAdd]
        refine kept_val _ (fun _ => rfl) (fun ρ w hw => by go_simp; first | done | with_reducible rfl) ?_
        simp only [Act.put, List.setIfInBounds_toArray, List.set_cons_zero, List.set_cons_succ, Nat.reduceAdd]
        refine kept_val _ (fun _ => rfl) (fun ρ w hw => by go_simp; first | done | with_reducible rfl) ?_
        simp only [Act.put, List.setIfInBounds_toArray, List.set_cons_zero, List.set_cons_succ, Nat.reduceAdd]
        refine kept_val _ (fun _ => rfl) (fun ρ w hw => by have q0 := (hw.cell (p := ⟨b, o + k' * 2, none⟩) hbs).trans r0; go_simp; first | done | with_reducible rfl) ?_
        simp only [Act.put, List.setIfInBounds_toArray, List.set_cons_zero, List.set_cons_succ, Nat.reduceAdd]
        refine kept_val _ (fun _ => rfl) (fun ρ w hw => by go_simp; first | done | with_reducible rfl) ?_
        simp only [Act.put, List.setIfInBounds_toArray, List.set_cons_zero, List.set_cons_succ, Nat.reduceAdd]
        refine kept_val _ (fun _ => rfl) (fun ρ w hw => by have q0 := (x4.below hw).c0; go_simp; first | done | with_reducible rfl) ?_
        simp only [Act.put, List.setIfInBounds_toArray, List.set_cons_zero, List.set_cons_succ, Nat.reduceAdd]
        refine kept_val _ (fun _ => rfl) (fun ρ w hw => by go_simp; first | done | with_reducible rfl) ?_
        simp only [Act.put, List.setIfInBounds_toArray, List.set_cons_zero, List.set_cons_succ, Nat.reduceAdd]
        refine kept_val _ (fun _ => rfl) (fun ρ w hw => by go_simp; first | done | with_reducible rfl) ?_
        simp only [Act.put, List.setIfInBounds_toArray, List.set_cons_zero, List.set_cons_succ, Nat.reduceAdd]
        refine kept_val _ (fun _ => rfl) (fun ρ w hw => by go_simp; first | done | with_reducible rfl) ?_
        simp only [Act.put, List.setIfInBounds_toArray, List.set_cons_zero, List.set_cons_succ, Nat.reduceAdd]
        refine kept_end (fun ρ w20 hF => ?_)
        have hbF := hF.below
        clear hF
        replace x4 := x4.below hbF
        replace hb := bto hb hbF
        clear hbF
        clear r0
        have HV : Hid (bagE ts = 8) := by show _ = _; rw [HE.out, HK.out, HN.out, if_neg HGd.out, if_neg HGv.out, if_neg HC.out, if_pos HB.out]
        clear HK HN HE HI HS
        have q0 := x4.c0
        have q1 := x4.c1
        go_wp2
        go_ret
        exact ⟨reti HV.out.symm, hb⟩
      · have HB : Hid (¬ ordM (prevC ts (k' + 1)) t.cur = true) := by show ¬ _; rw [HPd.out]; show ¬ (!bytesLess u.cur t.cur) = true; rw [hlt]; decide
        have HV : Hid (bagL none ts = bagL (prevC ts ((k' + 1) + 1)) (ts.drop ((k' + 1) + 1))) := by show _ = _; rw [HK.out, HN.out, if_neg HGd.out, if_neg HGv.out, if_neg HC.out, if_neg HB.out]
        clear HK HN
        refine wp_region_kept (by kernel_rfl) (by kernel_rfl) ?_
        refine kept_val _ (fun _ => rfl) (fun ρ w hw => by go_simp; first | done | with_reducible rfl) ?_
        simp only [Act.put, List.setIfInBounds_toArray, List.set_cons_zero, List.set_cons_succ, Nat.reduceAdd]
        refine kept_val (.bool true) (fun _ => rfl) (fun ρ w hw => by go_simp; first | done | omega | (simp; omega)) ?_
        simp only [Act.put, List.setIfInBounds_toArray, List.set_cons_zero, List.set_cons_succ, Nat.reduceAdd]
        refine kept_val _ (fun _ => rfl) (fun ρ w hw => by go_simp; first | done | with_reducible rfl) ?_
        simp only [Act.put, List.setIfInBounds_toArray, List.set_cons_zero, List.set_cons_succ, Nat.reduceAdd]
        refine kept_val _ (fun _ => rfl) (fun ρ w hw => by go_simp; first | done | with_reducible rfl) ?_
        simp only [Act.put, List.setIfInBounds_toArray, List.set_cons_zero, List.set_cons_succ, Nat.reduceAdd]
        refine kept_val _ (fun _ => rfl) (fun ρ w hw => by go_simp; first | done | with_reducible rfl) ?_
        simp only [Act.put, List.setIfInBounds_toArray, List.set_cons_zero, List.set_cons_succ, Nat.reduceAdd]
        refine kept_val _ (fun _ => rfl) (fun ρ w hw => by go_simp; first | done | with_reducible rfl) ?_
        simp only [Act.put, List.setIfInBounds_toArray, List.set_cons_zero, List.set_cons_succ, Nat.reduceAdd]
        refine kept_val _ (fun _ => rfl) (fun ρ w hw => by go_simp; first | done | with_reducible rfl) ?_
        simp only [Act.put, List.setIfInBounds_toArray, List.set_cons_zero, List.set_cons_succ, Nat.reduceAdd]
        refine kept_val _ (fun _ => rfl) (fun ρ w hw => by go_simp; first | done | with_reducible rfl) ?_
        simp only [Act.put, List.setIfInBounds_toArray, List.set_cons_zero, List.set_cons_succ, Nat.reduceAdd]
        refine kept_val _ (fun _ => rfl) (fun ρ w hw => by have q0 := (hw.cell (p := ⟨b, o + k' * 2, none⟩) hbs).trans r0; go_simp; first | done | with_reducible rfl) ?_
        simp only [Act.put, List.setIfInBounds_toArray, List.set_cons_zero, List.set_cons_succ, Nat.reduceAdd]
        refine kept_val _ (fun _ => rfl) (fun ρ w hw => by go_simp; first | done | with_reducible rfl) ?_
        simp only [Act.put, List.setIfInBounds_toArray, List.set_cons_zero, List.set_cons_succ, Nat.reduceAdd]
        refine kept_val _ (fun _ => rfl) (fun ρ w hw => by have q0 := (x4.below hw).c0; go_simp; first | done | with_reducible rfl) ?_
        simp only [Act.put, List.setIfInBounds_toArray, List.set_cons_zero, List.set_cons_succ, Nat.reduceAdd]
        refine kept_val _ (fun _ => rfl) (fun ρ w hw => by go_simp; first | done | with_reducible rfl) ?_
        simp only [Act.put, List.setIfInBounds_toArray, List.set_cons_zero, List.set_cons_succ, Nat.reduceAdd]
        refine kept_val _ (fun _ => rfl) (fun ρ w hw => by go_simp; first | done | with_reducible rfl) ?_
        simp only [Act.put, List.setIfInBounds_toArray, List.set_cons_zero, List.set_cons_succ, Nat.reduceAdd]
        refine kept_val _ (fun _ => rfl) (fun ρ w hw => by go_simp; first | done | with_reducible rfl) ?_
        simp only [Act.put, List.setIfInBounds_toArray, List.set_cons_zero, List.set_cons_succ, Nat.reduceAdd]
        refine kept_end (fun ρ w20 hF => ?_)
        have hbF := hF.below
        clear hF
        replace x4 := x4.below hbF
        replace hb := bto hb hbF
        clear hbF
        clear r0
        go_wp2
        go_roundw
        case rel => exact ⟨(k' + 1) + 1, by omega, by go_num, HV.out, hb⟩
        case measure => simp [intOf]; omega
end Go.Proofs.YtgnppdkeiihlfaaGreatDoor
