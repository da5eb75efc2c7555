/- Texts put together: Ms Pw Wa Ws Mq Mt Mu Mv My Db Dc Dd De Bs Df Dg Ea Eb Na Ec Ed Nb Nc Nd. -/
import Derived.Test.YtgnppdkeiihlfaaGreatDoorF3
import Derived.Test.YtgnppdkeiihlfaaGreatDoorFBd
import Derived.Test.YtgnppdkeiihlfaaGreatDoorFCd
import Derived.Test.YtgnppdkeiihlfaaGreatDoorFCc
import Derived.Test.YtgnppdkeiihlfaaGreatDoorFBe
import Derived.RangeFuncBox
import Derived.OwnWalkIn
import Derived.TacticsInMore
import Derived.RegionIn
import Derived.LoopNIn
import Derived.LoopIn
import Derived.Shelf.Strings.Trim
import Derived.Shelf.Strconv.Itoa3
import Derived.Shelf.Strings.Search3
import Derived.Shelf.Strings.Prefix
import Derived.Lib.AppendIntMem
import Derived.BigQuiet
namespace Go.Proofs.YtgnppdkeiihlfaaGreatDoor
open Go.RowKit Go.Shelf Num
open Go.Op (bytesLess)
attribute [local go_sem] Oper.semAt_some
def lenAt (W : World) (b : Nat) : Nat := match W.cell? ⟨b, 0, none⟩ with | some (.slice _ n _) => n | _ => 0
theorem lenAt_eq {W : World} {b : Nat} {A : Option Addr} {n c : Nat} (h : Boxed W b 42 (.slice A n c)) : lenAt W b = n := by unfold lenAt; rw [h.cell]
section
variable {w W W' : World} {b b' i : Nat} {t : TypeId} {u v x : Value}
theorem bx_below (h : Boxed W b t v) (hb : Below W.heap.size W W') : Boxed W' b t v := (hb.block b h.lt).trans h
theorem bx_far (h : Boxed W b t v) (hn : b ≠ b') : Boxed (W.setCell ⟨b', i, none⟩ u) b t v := (Below.heap_setCell W ⟨b', i, none⟩ u b hn).trans h
end
structure RL (w : World) (A : Option Addr) (X : List Mon) (n : Nat) : Prop where
  len : X.length = n
  str : ∀ t ∈ X, t.cur.length ≤ 1000 ∧ t.amt.length ≤ 1000
  mem : MonAt w A X
theorem RL.next {w : World} {b o n c : Nat} {x : Mon} {r : List Mon} (h : RL w (some ⟨b, o, none⟩) (x :: r) n) (hc : n ≤ c) : RL w (if c = 1 then some ⟨b, o, none⟩ else some ⟨b, o + 2, none⟩) r (n - 1) := by
  have hl := h.len
  rw [List.length_cons] at hl
  refine ⟨by omega, fun t ht => h.str t (List.mem_cons_of_mem _ ht), ?_⟩
  by_cases h1 : c = 1
  · have : r = [] := List.eq_nil_of_length_eq_zero (by omega)
    subst this
    intro i t ht; simp at ht
  · rw [if_neg h1]
    intro i t ht
    obtain ⟨b', o', hA, h2, h3, h4⟩ := h.mem (i + 1) t (by simpa using ht)
    cases hA
    exact ⟨b, o + 2, rfl, h2, by rw [show o + 2 + i * 2 = o + (i + 1) * 2 by omega]; exact h3, by rw [show o + 2 + i * 2 + 1 = o + (i + 1) * 2 + 1 by omega]; exact h4⟩
theorem RL.head {w : World} {A : Option Addr} {n : Nat} {x : Mon} {r : List Mon} (h : RL w A (x :: r) n) : ∃ b o, A = some ⟨b, o, none⟩ ∧ b < w.heap.size ∧ w.cell? ⟨b, o, none⟩ = some (.string ⟨x.cur.toArray⟩) ∧ w.cell? ⟨b, o + 1, none⟩ = some (.string ⟨x.amt.toArray⟩) := by
  obtain ⟨b, o, h0, h1, h2, h3⟩ := h.mem 0 x rfl
  exact ⟨b, o, h0, h1, by simpa using h2, by simpa using h3⟩
theorem grownBy_setCell2 (W : World) (b i : Nat) (v : Value) : W.grownBy (W.setCell ⟨b, i, none⟩ v) (some b) :=
  ⟨rfl, rfl, rfl, (KeepsWalks.setCell W _ v).size, fun k _ hk => Below.heap_setCell _ _ _ k (fun e => hk (by rw [e]))⟩
theorem below_drw (W : World) : Below W.heap.size W W.drew := ⟨rfl, rfl, rfl, Nat.le_refl _, fun _ _ => rfl⟩
theorem set_cells {W : World} {b j : Nat} {cs : Array Value} {t : TypeId} (x : Value) (h : W.heap[b]? = some (.cells cs t (0, 0))) : (W.setCell ⟨b, j, none⟩ x).heap[b]? = some (.cells (cs.setIfInBounds j x) t (0, 0)) := (turnedC W b j cs x t h).new
set_option maxHeartbeats 8000000 in
set_option maxRecDepth 100000 in
theorem both1_in (m lw ab bb ob : Nat) (xs ys : List Mon) (N : Nat) (w : World) (S : List Yl → World → Prop)
    (hSB : ∀ zs W, S zs W → Below w.heap.size w W) (hSm : ∀ zs W W', S zs W → Below W.heap.size W W' → S zs W')
    (hSs : ∀ zs W W' b cs t, S zs W → W.heap[b]? = some (.cells cs t (0, 0)) → t ≠ 48 → b ≠ ob → w.heap.size ≤ b → W.grownBy W' (some b) → S zs W')
    (hob : ∀ zs W, S zs W → ob < W.heap.size) (hao : ab ≠ ob) (hbo : bb ≠ ob) (hab : w.heap.size ≤ ab) (hbb : w.heap.size ≤ bb)
    (hYd : ∀ zs (y : Yl) W u v, S zs W → y.1.length ≤ 1000 → y.2.1.length ≤ 1000 → y.2.2.length ≤ 1000 → zs.length < N → Boxed W ab 42 u → Boxed W bb 42 v →
      YieldAt Fence.wide (m - 1) Tryz.prog lw #[.string ⟨y.1.toArray⟩, .agg #[.string ⟨y.2.1.toArray⟩, .string ⟨y.2.2.toArray⟩]] W fun e W' => e = .returned (.bool true) ∧ S (zs ++ [y]) W' ∧ Boxed W' ab 42 u ∧ Boxed W' bb 42 v)
    (hne : ab ≠ bb) (hN : xs.length + ys.length ≤ N) (A B : Option Addr) (n c n' c' : Nat) (hX : RL w A xs n) (hY : RL w B ys n') (hc : n ≤ c) (hc' : n' ≤ c') (hn63 : n ≤ 1000000 ∧ n' ≤ 1000000)
    (W : World) (hS : S [] W) (ha : Boxed W ab 42 (.slice A n c)) (hb : Boxed W bb 42 (.slice B n' c')) :
    CallsIn Fence.wide m Tryz.prog 255 #[.func (.yield lw) #[] #[], .pointer (some ⟨ab, 0, none⟩), .pointer (some ⟨bb, 0, none⟩)] W fun e W' => (∃ v, e = .returned v) ∧ S (bothL xs ys) W' := by
  have HB := Lib.hid hSB
  have HM := Lib.hid hSm
  have HSs := Lib.hid hSs
  have HO := Lib.hid hob
  have HY := Lib.hid hYd
  have HX := Lib.hid hS
  have HXL := Lib.hid hX
  have HYL := Lib.hid hY
  clear hSB hSm hSs hYd hS hX hY hob
  refine callsIn_of_wp Tryz.func255 rfl trivial ?_ rfl
  simp only [Tryz.ntmps255, List.size_toArray, List.length_cons, List.length_nil, Nat.reduceAdd, Nat.reduceSub, Array.replicate_succ, Array.replicate_zero, List.push_toArray, List.append_toArray, List.nil_append, List.cons_append]
  gi_wp2_with fail
  gi_loopw [4] (fun _ wr => ∃ (X Y : List Mon) (A B : Option Addr) (n c n' c' : Nat) (zs : List Yl), Hid (RL w A X n) ∧ Hid (RL w B Y n') ∧ n ≤ c ∧ n' ≤ c' ∧ n ≤ 1000000 ∧ n' ≤ 1000000 ∧ Hid (zs ++ bothL X Y = bothL xs ys) ∧ zs.length + n + n' ≤ N ∧ Hid (S zs wr) ∧ Hid (Boxed wr ab 42 (.slice A n c)) ∧ Hid (Boxed wr bb 42 (.slice B n' c'))) (fun _ wr => lenAt wr ab + lenAt wr bb)
  case atStart => exact ⟨xs, ys, A, B, n, c, n', c', [], HXL.out, HYL.out, hc, hc', hn63.1, hn63.2, rfl, by have := HXL.out.len; have := HYL.out.len; simp; omega, HX.out, ha, hb⟩
  case round =>
    clear HX HXL HYL ha hb hc hc' hn63 hN
    obtain ⟨X, Y, A, B, n, c, n', c', zs, HXL, HYL, hc, hc', hn, hn', HQ, hzl, HX, HA, HBb⟩ := hrel
    have hb := HB.out _ _ HX.out
    have la := lenAt_eq HA.out
    have lb := lenAt_eq HBb.out
    have qa := HA.out.cell
    have qb := HBb.out.cell
    cases X with
    | nil =>
      obtain rfl : n = 0 := HXL.out.len.symm
      cases Y with
      | nil =>
        obtain rfl : n' = 0 := HYL.out.len.symm
        have HE : Hid (S (bothL xs ys) wr) := by
          have h1 := HQ.out
          rw [show bothL [] [] = [] from rfl, List.append_nil] at h1
          show S _ wr
          rw [← h1]; exact HX.out
        clear HX HQ la lb hb
        gi_wp2
        go_end0
        exact ⟨⟨_, rfl⟩, HE.out⟩
      | cons y s =>
        obtain ⟨m1, rfl⟩ : ∃ k, n' = k + 1 := ⟨s.length, by have := HYL.out.len; simpa using this.symm⟩
        obtain ⟨b', o', rfl, hbs', h0, h1⟩ := HYL.out.head
        have R0 := Lib.hid h0
        have R1 := Lib.hid h1
        clear h0 h1
        obtain ⟨hy1, hy2⟩ := HYL.out.str y (List.mem_cons_self ..)
        have hyn := HYL.out.next hc'
        obtain ⟨D, hD⟩ : ∃ D, (if c' = 1 then (some ⟨b', o', none⟩ : Option Addr) else some ⟨b', o' + 2, none⟩) = D := ⟨_, rfl⟩
        rw [hD] at hyn
        have HYN := Lib.hid hyn
        have HD := Lib.hid hD
        clear hyn hD
        have kb : 0 < m1 + 1 := by omega
        have kd : (1 : Int) ≤ (m1 : Int) + 1 := by omega
        have kb1 : ((m1 : Int) + 1 == 0) = false := intbne (by omega)
        have HQ2 : Hid (zs ++ [(y.cur, [], y.amt)] ++ bothL [] s = bothL xs ys) := by
          have h1 := HQ.out
          rw [show bothL [] (y :: s) = (y.cur, [], y.amt) :: bothL [] s from rfl] at h1
          show _ = _
          rw [List.append_assoc, List.singleton_append]; exact h1
        clear HQ
        gi_wp2_with fail
        have hbA := below_alloc wr (.cells #[.string ⟨#[]⟩, .string ⟨#[]⟩] 201)
        have HN0 : (wr.alloc (.cells #[.string ⟨#[]⟩, .string ⟨#[]⟩] 201)).heap[wr.heap.size]? = some (.cells #[.string ⟨#[]⟩, .string ⟨#[]⟩] 201 (0, 0)) := heap_alloc_new wr _
        have na : wr.heap.size ≠ ab := by have := HA.out.lt; omega
        have nb : wr.heap.size ≠ bb := by have := HBb.out.lt; omega
        have no : wr.heap.size ≠ ob := by have := HO.out _ _ HX.out; omega
        have nw := hb.size
        obtain ⟨W1, hW1⟩ : ∃ W1, W1 = wr.alloc (.cells #[.string ⟨#[]⟩, .string ⟨#[]⟩] 201) := ⟨_, rfl⟩
        rw [← hW1] at hbA HN0 ⊢
        replace HX := Lib.hid (HM.out _ _ _ HX.out hbA)
        replace HA := Lib.hid (bx_below HA.out hbA)
        replace HBb := Lib.hid (bx_below HBb.out hbA)
        generalize wr.heap.size = nn at *
        have HLa := Lib.hid la
        have HLb := Lib.hid lb
        clear hW1 hbA qa qb la lb
        replace hb := HB.out _ _ HX.out
        refine wpIn_wide.2 ?_
        refine wp_region_kept (by kernel_rfl) (by kernel_rfl) ?_
        refine kept_val _ (fun _ => rfl) (fun ρ w hw => by have q0 := (bx_below HBb.out hw).cell; go_simp; first | done | with_reducible rfl) ?_
        iterate 3
          simp only [Act.put, List.setIfInBounds_toArray, List.set_cons_zero, List.set_cons_succ, Nat.reduceAdd]
          refine kept_val _ (fun _ => rfl) (fun ρ w hw => by go_simp; first | done | with_reducible rfl) ?_
        simp only [Act.put, List.setIfInBounds_toArray, List.set_cons_zero, List.set_cons_succ, Nat.reduceAdd]
        refine kept_val _ (fun _ => rfl) (fun ρ w hw => by have q0 := (bx_below HA.out hw).cell; go_simp; first | done | with_reducible rfl) ?_
        iterate 3
          simp only [Act.put, List.setIfInBounds_toArray, List.set_cons_zero, List.set_cons_succ, Nat.reduceAdd]
          refine kept_val _ (fun _ => rfl) (fun ρ w hw => by go_simp; first | done | with_reducible rfl) ?_
        iterate 9
          simp only [Act.put, List.setIfInBounds_toArray, List.set_cons_zero, List.set_cons_succ, Nat.reduceAdd]
          refine kept_off (fun _ => rfl) ?_
        iterate 3
          simp only [Act.put, List.setIfInBounds_toArray, List.set_cons_zero, List.set_cons_succ, Nat.reduceAdd]
          refine kept_val _ (fun _ => rfl) (fun ρ w hw => by go_simp; first | done | with_reducible rfl) ?_
        simp only [Act.put, List.setIfInBounds_toArray, List.set_cons_zero, List.set_cons_succ, Nat.reduceAdd]
        refine kept_end (fun ρ W2 hF => ?_)
        have hF := hF.below
        replace HX := Lib.hid (HM.out _ _ _ HX.out hF)
        replace HA := Lib.hid (bx_below HA.out hF)
        replace HBb := Lib.hid (bx_below HBb.out hF)
        replace HN0 := (hF.block nn (Array.getElem?_eq_some_iff.1 HN0).1).trans HN0
        replace hb := HB.out _ _ HX.out
        clear hF
        have qa := HA.out.cell
        have qb := HBb.out.cell
        have r0 := (hb.cell (p := ⟨b', o', none⟩) hbs').trans R0.out
        gi_wp2_with fail
        clear qa qb r0
        have r1 := (hb.cell (p := ⟨b', o' + 1, none⟩) hbs').trans R1.out
        have hbl := Nat.lt_of_lt_of_le hbs' hb.size
        have f0 := blk_cell HN0 1
        have f1 := blk_frozen HN0 1
        have f2 := HBb.out.cell
        have f3 := HBb.out.frozen
        have f4 := HD.out
        have f5 := Ne.symm nb
        gi_region
        have hs1 := HSs.out zs _ _ nn _ _ HX.out HN0 (by decide) no nw (grownBy_setCell2 _ nn 1 (.string ⟨(y.amt).toArray⟩))
        have hA1 := bx_far (i := 1) (u := (.string ⟨(y.amt).toArray⟩)) HBb.out (Ne.symm nb)
        have hB1 := bx_far (i := 1) (u := (.string ⟨(y.amt).toArray⟩)) HA.out (Ne.symm na)
        have hN1 := set_cells (.string ⟨(y.amt).toArray⟩) (j := 1) HN0
        have hs2 := HSs.out zs _ _ bb _ _ hs1 hA1 (by decide) hbo hbb (grownBy_setCell' _ bb (.slice D m1 (c' - 1)))
        replace hs2 := HM.out _ _ _ hs2 (below_drw _)
        have hA2 : Boxed _ bb 42 _ := (bx_below (Boxed.set (.slice D m1 (c' - 1)) hA1) (below_drw _))
        have hB2 : Boxed _ ab 42 _ := bx_below (bx_far (i := 0) (u := (.slice D m1 (c' - 1))) hB1 hne) (below_drw _)
        have hN2 := (Below.heap_setCell _ ⟨bb, 0, none⟩ (.slice D m1 (c' - 1)) nn nb).trans hN1
        obtain ⟨W3, hWb⟩ : ∃ Wb, Wb = ((W2.setCell ⟨nn, 1, none⟩ (.string ⟨(y.amt).toArray⟩)).setCell ⟨bb, 0, none⟩ (.slice D m1 (c' - 1))).drew := ⟨_, rfl⟩
        replace hN2 : W3.heap[nn]? = _ := (congrArg (fun W : World => W.heap[nn]?) hWb).trans hN2
        rw [← hWb] at hs2 hA2 hB2 ⊢
        clear HX HA HBb HN0 hb
        have HX := Lib.hid hs2
        have HBb := Lib.hid hA2
        have HA := Lib.hid hB2
        have HN0 := hN2
        have hb := HB.out _ _ HX.out
        clear hWb f0 f1 f2 f3 f4 f5 hs1 hs2 hA1 hB1 hN1 hA2 hB2 hN2 hbl r1
        have qa := HA.out.cell
        have qb := HBb.out.cell
        have r0 := (hb.cell (p := ⟨b', o', none⟩) hbs').trans R0.out
        have u0 := blk_cell HN0 0
        have u1 := blk_cell HN0 1
        have hyy := HY.out zs (y.cur, [], y.amt) _ _ _ HX.out hy1 (Nat.zero_le 1000) hy2 (by omega) HA.out HBb.out
        have hyz : YieldAt Fence.wide (m - 1) Tryz.prog lw #[.string ⟨y.cur.toArray⟩, .agg #[.string ⟨#[]⟩, .string ⟨y.amt.toArray⟩]] _ _ := hyy
        clear hyy
        obtain ⟨fn, tmps, assign, body, hyr, hR⟩ := hyz
        gi_wp2
        refine ⟨fun h => (by cases h), hR.mono ?_⟩
        rintro e W9 ⟨rfl, hS9, hA9, hB9⟩
        have HS9 := Lib.hid hS9
        have HA9 := Lib.hid hA9
        have HB9 := Lib.hid hB9
        clear hS9 hA9 hB9 hR hyr HX HA HBb HN0 u0 u1 hb qa qb r0
        gi_wp2
        go_roundw
        case rel => exact ⟨[], s, A, D, 0, c, m1, c' - 1, zs ++ [(y.cur, [], y.amt)], HXL.out, HYN.out, by omega, by omega, by omega, by omega, HQ2.out, by rw [List.length_append, List.length_singleton]; omega, HS9.out, HA9.out, HB9.out⟩
        case measure =>
          have e1 := lenAt_eq HA9.out
          have e2 := lenAt_eq HB9.out
          have e3 := HLa.out
          have e4 := HLb.out
          rw [e1, e2, e3, e4]
          omega
    | cons x r =>
      cases Y with
      | nil =>
        obtain ⟨n1, rfl⟩ : ∃ k, n = k + 1 := ⟨r.length, by have := HXL.out.len; simpa using this.symm⟩
        obtain ⟨b, o, rfl, hbs, h0, h1⟩ := HXL.out.head
        have P0 := Lib.hid h0
        have P1 := Lib.hid h1
        clear h0 h1
        obtain ⟨hx1, hx2⟩ := HXL.out.str x (List.mem_cons_self ..)
        have hxn := HXL.out.next hc
        obtain ⟨C, hC⟩ : ∃ C, (if c = 1 then (some ⟨b, o, none⟩ : Option Addr) else some ⟨b, o + 2, none⟩) = C := ⟨_, rfl⟩
        rw [hC] at hxn
        have HXN := Lib.hid hxn
        have HC := Lib.hid hC
        clear hxn hC
        have ka : 0 < n1 + 1 := by omega
        have kc : (1 : Int) ≤ (n1 : Int) + 1 := by omega
        have ka1 : ((n1 : Int) + 1 == 0) = false := intbne (by omega)
        obtain rfl : n' = 0 := HYL.out.len.symm
        have HQ2 : Hid (zs ++ [(x.cur, x.amt, [])] ++ bothL r [] = bothL xs ys) := by
          have h1 := HQ.out
          rw [show bothL (x :: r) [] = (x.cur, x.amt, []) :: bothL r [] from both_nil x r] at h1
          show _ = _
          rw [List.append_assoc, List.singleton_append]; exact h1
        clear HQ
        gi_wp2_with fail
        have hbA := below_alloc wr (.cells #[.string ⟨#[]⟩, .string ⟨#[]⟩] 201)
        have HN0 : (wr.alloc (.cells #[.string ⟨#[]⟩, .string ⟨#[]⟩] 201)).heap[wr.heap.size]? = some (.cells #[.string ⟨#[]⟩, .string ⟨#[]⟩] 201 (0, 0)) := heap_alloc_new wr _
        have na : wr.heap.size ≠ ab := by have := HA.out.lt; omega
        have nb : wr.heap.size ≠ bb := by have := HBb.out.lt; omega
        have no : wr.heap.size ≠ ob := by have := HO.out _ _ HX.out; omega
        have nw := hb.size
        obtain ⟨W1, hW1⟩ : ∃ W1, W1 = wr.alloc (.cells #[.string ⟨#[]⟩, .string ⟨#[]⟩] 201) := ⟨_, rfl⟩
        rw [← hW1] at hbA HN0 ⊢
        replace HX := Lib.hid (HM.out _ _ _ HX.out hbA)
        replace HA := Lib.hid (bx_below HA.out hbA)
        replace HBb := Lib.hid (bx_below HBb.out hbA)
        generalize wr.heap.size = nn at *
        have HLa := Lib.hid la
        have HLb := Lib.hid lb
        clear hW1 hbA qa qb la lb
        replace hb := HB.out _ _ HX.out
        refine wpIn_wide.2 ?_
        refine wp_region_kept (by kernel_rfl) (by kernel_rfl) ?_
        refine kept_val _ (fun _ => rfl) (fun ρ w hw => by have q0 := (bx_below HBb.out hw).cell; go_simp; first | done | with_reducible rfl) ?_
        iterate 3
          simp only [Act.put, List.setIfInBounds_toArray, List.set_cons_zero, List.set_cons_succ, Nat.reduceAdd]
          refine kept_val _ (fun _ => rfl) (fun ρ w hw => by go_simp; first | done | with_reducible rfl) ?_
        iterate 14
          simp only [Act.put, List.setIfInBounds_toArray, List.set_cons_zero, List.set_cons_succ, Nat.reduceAdd]
          refine kept_off (fun _ => rfl) ?_
        iterate 2
          simp only [Act.put, List.setIfInBounds_toArray, List.set_cons_zero, List.set_cons_succ, Nat.reduceAdd]
          refine kept_val _ (fun _ => rfl) (fun ρ w hw => by go_simp; first | done | with_reducible rfl) ?_
        simp only [Act.put, List.setIfInBounds_toArray, List.set_cons_zero, List.set_cons_succ, Nat.reduceAdd]
        refine kept_end (fun ρ W2 hF => ?_)
        have hF := hF.below
        replace HX := Lib.hid (HM.out _ _ _ HX.out hF)
        replace HA := Lib.hid (bx_below HA.out hF)
        replace HBb := Lib.hid (bx_below HBb.out hF)
        replace HN0 := (hF.block nn (Array.getElem?_eq_some_iff.1 HN0).1).trans HN0
        replace hb := HB.out _ _ HX.out
        clear hF
        have qa := HA.out.cell
        have qb := HBb.out.cell
        have p0 := (hb.cell (p := ⟨b, o, none⟩) hbs).trans P0.out
        gi_wp2_with fail
        clear qa qb p0
        have p1 := (hb.cell (p := ⟨b, o + 1, none⟩) hbs).trans P1.out
        have hbl := Nat.lt_of_lt_of_le hbs hb.size
        have f0 := blk_cell HN0 0
        have f1 := blk_frozen HN0 0
        have f2 := HA.out.cell
        have f3 := HA.out.frozen
        have f4 := HC.out
        have f5 := Ne.symm na
        gi_region
        have hs1 := HSs.out zs _ _ nn _ _ HX.out HN0 (by decide) no nw (grownBy_setCell2 _ nn 0 (.string ⟨(x.amt).toArray⟩))
        have hA1 := bx_far (i := 0) (u := (.string ⟨(x.amt).toArray⟩)) HA.out (Ne.symm na)
        have hB1 := bx_far (i := 0) (u := (.string ⟨(x.amt).toArray⟩)) HBb.out (Ne.symm nb)
        have hN1 := set_cells (.string ⟨(x.amt).toArray⟩) (j := 0) HN0
        have hs2 := HSs.out zs _ _ ab _ _ hs1 hA1 (by decide) hao hab (grownBy_setCell' _ ab (.slice C n1 (c - 1)))
        replace hs2 := HM.out _ _ _ hs2 (below_drw _)
        have hA2 : Boxed _ ab 42 _ := (bx_below (Boxed.set (.slice C n1 (c - 1)) hA1) (below_drw _))
        have hB2 : Boxed _ bb 42 _ := bx_below (bx_far (i := 0) (u := (.slice C n1 (c - 1))) hB1 hne.symm) (below_drw _)
        have hN2 := (Below.heap_setCell _ ⟨ab, 0, none⟩ (.slice C n1 (c - 1)) nn na).trans hN1
        obtain ⟨W3, hWb⟩ : ∃ Wb, Wb = ((W2.setCell ⟨nn, 0, none⟩ (.string ⟨(x.amt).toArray⟩)).setCell ⟨ab, 0, none⟩ (.slice C n1 (c - 1))).drew := ⟨_, rfl⟩
        replace hN2 : W3.heap[nn]? = _ := (congrArg (fun W : World => W.heap[nn]?) hWb).trans hN2
        rw [← hWb] at hs2 hA2 hB2 ⊢
        clear HX HA HBb HN0 hb
        have HX := Lib.hid hs2
        have HA := Lib.hid hA2
        have HBb := Lib.hid hB2
        have HN0 := hN2
        have hb := HB.out _ _ HX.out
        clear hWb f0 f1 f2 f3 f4 f5 hs1 hs2 hA1 hB1 hN1 hA2 hB2 hN2 hbl p1
        have qa := HA.out.cell
        have qb := HBb.out.cell
        have p0 := (hb.cell (p := ⟨b, o, none⟩) hbs).trans P0.out
        have u0 := blk_cell HN0 0
        have u1 := blk_cell HN0 1
        have hyy := HY.out zs (x.cur, x.amt, []) _ _ _ HX.out hx1 hx2 (Nat.zero_le 1000) (by omega) HA.out HBb.out
        have hyz : YieldAt Fence.wide (m - 1) Tryz.prog lw #[.string ⟨x.cur.toArray⟩, .agg #[.string ⟨x.amt.toArray⟩, .string ⟨#[]⟩]] _ _ := hyy
        clear hyy
        obtain ⟨fn, tmps, assign, body, hyr, hR⟩ := hyz
        gi_wp2
        refine ⟨fun h => (by cases h), hR.mono ?_⟩
        rintro e W9 ⟨rfl, hS9, hA9, hB9⟩
        have HS9 := Lib.hid hS9
        have HA9 := Lib.hid hA9
        have HB9 := Lib.hid hB9
        clear hS9 hA9 hB9 hR hyr HX HA HBb HN0 u0 u1 hb qa qb p0
        gi_wp2
        go_roundw
        case rel => exact ⟨r, [], C, B, n1, c - 1, 0, c', zs ++ [(x.cur, x.amt, [])], HXN.out, HYL.out, by omega, by omega, by omega, by omega, HQ2.out, by rw [List.length_append, List.length_singleton]; omega, HS9.out, HA9.out, HB9.out⟩
        case measure =>
          have e1 := lenAt_eq HA9.out
          have e2 := lenAt_eq HB9.out
          have e3 := HLa.out
          have e4 := HLb.out
          rw [e1, e2, e3, e4]
          omega
      | cons y s =>
        rcases ltS_tri x.cur y.cur with hlt | heq | hgt
        · skip
          obtain ⟨n1, rfl⟩ : ∃ k, n = k + 1 := ⟨r.length, by have := HXL.out.len; simpa using this.symm⟩
          obtain ⟨b, o, rfl, hbs, h0, h1⟩ := HXL.out.head
          have P0 := Lib.hid h0
          have P1 := Lib.hid h1
          clear h0 h1
          obtain ⟨hx1, hx2⟩ := HXL.out.str x (List.mem_cons_self ..)
          have hxn := HXL.out.next hc
          obtain ⟨C, hC⟩ : ∃ C, (if c = 1 then (some ⟨b, o, none⟩ : Option Addr) else some ⟨b, o + 2, none⟩) = C := ⟨_, rfl⟩
          rw [hC] at hxn
          have HXN := Lib.hid hxn
          have HC := Lib.hid hC
          clear hxn hC
          have ka : 0 < n1 + 1 := by omega
          have kc : (1 : Int) ≤ (n1 : Int) + 1 := by omega
          have ka1 : ((n1 : Int) + 1 == 0) = false := intbne (by omega)
          obtain ⟨m1, rfl⟩ : ∃ k, n' = k + 1 := ⟨s.length, by have := HYL.out.len; simpa using this.symm⟩
          obtain ⟨b', o', rfl, hbs', h0, h1⟩ := HYL.out.head
          have R0 := Lib.hid h0
          have R1 := Lib.hid h1
          clear h0 h1
          obtain ⟨hy1, hy2⟩ := HYL.out.str y (List.mem_cons_self ..)
          have hyn := HYL.out.next hc'
          obtain ⟨D, hD⟩ : ∃ D, (if c' = 1 then (some ⟨b', o', none⟩ : Option Addr) else some ⟨b', o' + 2, none⟩) = D := ⟨_, rfl⟩
          rw [hD] at hyn
          have HYN := Lib.hid hyn
          have HD := Lib.hid hD
          clear hyn hD
          have kb : 0 < m1 + 1 := by omega
          have kd : (1 : Int) ≤ (m1 : Int) + 1 := by omega
          have kb1 : ((m1 : Int) + 1 == 0) = false := intbne (by omega)
          have HQ2 : Hid (zs ++ [(x.cur, x.amt, [])] ++ bothL r (y :: s) = bothL xs ys) := by
            have h1 := HQ.out
            rw [show bothL (x :: r) (y :: s) = (x.cur, x.amt, []) :: bothL r (y :: s) from both_lt hlt r s] at h1
            show _ = _
            rw [List.append_assoc, List.singleton_append]; exact h1
          have g1 := hlt
          have g2 : (y.cur == x.cur) = false := by rw [beq_eq_false_iff_ne]; exact (ltS_ne hlt).symm
          clear hlt
          clear HQ
          gi_wp2_with fail
          have hbA := below_alloc wr (.cells #[.string ⟨#[]⟩, .string ⟨#[]⟩] 201)
          have HN0 : (wr.alloc (.cells #[.string ⟨#[]⟩, .string ⟨#[]⟩] 201)).heap[wr.heap.size]? = some (.cells #[.string ⟨#[]⟩, .string ⟨#[]⟩] 201 (0, 0)) := heap_alloc_new wr _
          have na : wr.heap.size ≠ ab := by have := HA.out.lt; omega
          have nb : wr.heap.size ≠ bb := by have := HBb.out.lt; omega
          have no : wr.heap.size ≠ ob := by have := HO.out _ _ HX.out; omega
          have nw := hb.size
          obtain ⟨W1, hW1⟩ : ∃ W1, W1 = wr.alloc (.cells #[.string ⟨#[]⟩, .string ⟨#[]⟩] 201) := ⟨_, rfl⟩
          rw [← hW1] at hbA HN0 ⊢
          replace HX := Lib.hid (HM.out _ _ _ HX.out hbA)
          replace HA := Lib.hid (bx_below HA.out hbA)
          replace HBb := Lib.hid (bx_below HBb.out hbA)
          generalize wr.heap.size = nn at *
          have HLa := Lib.hid la
          have HLb := Lib.hid lb
          clear hW1 hbA qa qb la lb
          replace hb := HB.out _ _ HX.out
          refine wpIn_wide.2 ?_
          refine wp_region_kept (by kernel_rfl) (by kernel_rfl) ?_
          refine kept_val _ (fun _ => rfl) (fun ρ w hw => by have q0 := (bx_below HBb.out hw).cell; go_simp; first | done | with_reducible rfl) ?_
          iterate 3
            simp only [Act.put, List.setIfInBounds_toArray, List.set_cons_zero, List.set_cons_succ, Nat.reduceAdd]
            refine kept_val _ (fun _ => rfl) (fun ρ w hw => by go_simp; first | done | with_reducible rfl) ?_
          simp only [Act.put, List.setIfInBounds_toArray, List.set_cons_zero, List.set_cons_succ, Nat.reduceAdd]
          refine kept_val _ (fun _ => rfl) (fun ρ w hw => by have q0 := (bx_below HA.out hw).cell; go_simp; first | done | with_reducible rfl) ?_
          iterate 3
            simp only [Act.put, List.setIfInBounds_toArray, List.set_cons_zero, List.set_cons_succ, Nat.reduceAdd]
            refine kept_val _ (fun _ => rfl) (fun ρ w hw => by go_simp; first | done | with_reducible rfl) ?_
          simp only [Act.put, List.setIfInBounds_toArray, List.set_cons_zero, List.set_cons_succ, Nat.reduceAdd]
          refine kept_val _ (fun _ => rfl) (fun ρ w hw => by have q0 := (bx_below HA.out hw).cell; go_simp; first | done | with_reducible rfl) ?_
          iterate 2
            simp only [Act.put, List.setIfInBounds_toArray, List.set_cons_zero, List.set_cons_succ, Nat.reduceAdd]
            refine kept_val _ (fun _ => rfl) (fun ρ w hw => by go_simp; first | done | with_reducible rfl) ?_
          simp only [Act.put, List.setIfInBounds_toArray, List.set_cons_zero, List.set_cons_succ, Nat.reduceAdd]
          refine kept_val _ (fun _ => rfl) (fun ρ w hw => by have q0 := ((bto hb hw).cell (p := ⟨b, o, none⟩) hbs).trans P0.out; go_simp; first | done | with_reducible rfl) ?_
          simp only [Act.put, List.setIfInBounds_toArray, List.set_cons_zero, List.set_cons_succ, Nat.reduceAdd]
          refine kept_val _ (fun _ => rfl) (fun ρ w hw => by have q0 := (bx_below HBb.out hw).cell; go_simp; first | done | with_reducible rfl) ?_
          iterate 2
            simp only [Act.put, List.setIfInBounds_toArray, List.set_cons_zero, List.set_cons_succ, Nat.reduceAdd]
            refine kept_val _ (fun _ => rfl) (fun ρ w hw => by go_simp; first | done | with_reducible rfl) ?_
          simp only [Act.put, List.setIfInBounds_toArray, List.set_cons_zero, List.set_cons_succ, Nat.reduceAdd]
          refine kept_val _ (fun _ => rfl) (fun ρ w hw => by have q0 := ((bto hb hw).cell (p := ⟨b', o', none⟩) hbs').trans R0.out; go_simp; first | done | with_reducible rfl) ?_
          iterate 4
            simp only [Act.put, List.setIfInBounds_toArray, List.set_cons_zero, List.set_cons_succ, Nat.reduceAdd]
            refine kept_val _ (fun _ => rfl) (fun ρ w hw => by go_simp; first | done | with_reducible rfl) ?_
          simp only [Act.put, List.setIfInBounds_toArray, List.set_cons_zero, List.set_cons_succ, Nat.reduceAdd]
          refine kept_end (fun ρ W2 hF => ?_)
          have hF := hF.below
          replace HX := Lib.hid (HM.out _ _ _ HX.out hF)
          replace HA := Lib.hid (bx_below HA.out hF)
          replace HBb := Lib.hid (bx_below HBb.out hF)
          replace HN0 := (hF.block nn (Array.getElem?_eq_some_iff.1 HN0).1).trans HN0
          replace hb := HB.out _ _ HX.out
          clear hF
          have qa := HA.out.cell
          have qb := HBb.out.cell
          have p0 := (hb.cell (p := ⟨b, o, none⟩) hbs).trans P0.out
          have r0 := (hb.cell (p := ⟨b', o', none⟩) hbs').trans R0.out
          gi_wp2_with fail
          clear qa qb p0 r0
          have p1 := (hb.cell (p := ⟨b, o + 1, none⟩) hbs).trans P1.out
          have hbl := Nat.lt_of_lt_of_le hbs hb.size
          have f0 := blk_cell HN0 0
          have f1 := blk_frozen HN0 0
          have f2 := HA.out.cell
          have f3 := HA.out.frozen
          have f4 := HC.out
          have f5 := Ne.symm na
          gi_region
          have hs1 := HSs.out zs _ _ nn _ _ HX.out HN0 (by decide) no nw (grownBy_setCell2 _ nn 0 (.string ⟨(x.amt).toArray⟩))
          have hA1 := bx_far (i := 0) (u := (.string ⟨(x.amt).toArray⟩)) HA.out (Ne.symm na)
          have hB1 := bx_far (i := 0) (u := (.string ⟨(x.amt).toArray⟩)) HBb.out (Ne.symm nb)
          have hN1 := set_cells (.string ⟨(x.amt).toArray⟩) (j := 0) HN0
          have hs2 := HSs.out zs _ _ ab _ _ hs1 hA1 (by decide) hao hab (grownBy_setCell' _ ab (.slice C n1 (c - 1)))
          replace hs2 := HM.out _ _ _ hs2 (below_drw _)
          have hA2 : Boxed _ ab 42 _ := (bx_below (Boxed.set (.slice C n1 (c - 1)) hA1) (below_drw _))
          have hB2 : Boxed _ bb 42 _ := bx_below (bx_far (i := 0) (u := (.slice C n1 (c - 1))) hB1 hne.symm) (below_drw _)
          have hN2 := (Below.heap_setCell _ ⟨ab, 0, none⟩ (.slice C n1 (c - 1)) nn na).trans hN1
          obtain ⟨W3, hWb⟩ : ∃ Wb, Wb = ((W2.setCell ⟨nn, 0, none⟩ (.string ⟨(x.amt).toArray⟩)).setCell ⟨ab, 0, none⟩ (.slice C n1 (c - 1))).drew := ⟨_, rfl⟩
          replace hN2 : W3.heap[nn]? = _ := (congrArg (fun W : World => W.heap[nn]?) hWb).trans hN2
          rw [← hWb] at hs2 hA2 hB2 ⊢
          clear HX HA HBb HN0 hb
          have HX := Lib.hid hs2
          have HA := Lib.hid hA2
          have HBb := Lib.hid hB2
          have HN0 := hN2
          have hb := HB.out _ _ HX.out
          clear hWb f0 f1 f2 f3 f4 f5 hs1 hs2 hA1 hB1 hN1 hA2 hB2 hN2 hbl p1
          have qa := HA.out.cell
          have qb := HBb.out.cell
          have p0 := (hb.cell (p := ⟨b, o, none⟩) hbs).trans P0.out
          have r0 := (hb.cell (p := ⟨b', o', none⟩) hbs').trans R0.out
          have u0 := blk_cell HN0 0
          have u1 := blk_cell HN0 1
          have hyy := HY.out zs (x.cur, x.amt, []) _ _ _ HX.out hx1 hx2 (Nat.zero_le 1000) (by omega) HA.out HBb.out
          have hyz : YieldAt Fence.wide (m - 1) Tryz.prog lw #[.string ⟨x.cur.toArray⟩, .agg #[.string ⟨x.amt.toArray⟩, .string ⟨#[]⟩]] _ _ := hyy
          clear hyy
          obtain ⟨fn, tmps, assign, body, hyr, hR⟩ := hyz
          gi_wp2
          refine ⟨fun h => (by cases h), hR.mono ?_⟩
          rintro e W9 ⟨rfl, hS9, hA9, hB9⟩
          have HS9 := Lib.hid hS9
          have HA9 := Lib.hid hA9
          have HB9 := Lib.hid hB9
          clear hS9 hA9 hB9 hR hyr HX HA HBb HN0 u0 u1 hb qa qb p0 r0
          gi_wp2
          go_roundw
          case rel => exact ⟨r, y :: s, C, _, n1, c - 1, m1 + 1, c', zs ++ [(x.cur, x.amt, [])], HXN.out, HYL.out, by omega, by omega, by omega, by omega, HQ2.out, by rw [List.length_append, List.length_singleton]; omega, HS9.out, HA9.out, HB9.out⟩
          case measure =>
            have e1 := lenAt_eq HA9.out
            have e2 := lenAt_eq HB9.out
            have e3 := HLa.out
            have e4 := HLb.out
            rw [e1, e2, e3, e4]
            omega
        · skip
          obtain ⟨n1, rfl⟩ : ∃ k, n = k + 1 := ⟨r.length, by have := HXL.out.len; simpa using this.symm⟩
          obtain ⟨b, o, rfl, hbs, h0, h1⟩ := HXL.out.head
          have P0 := Lib.hid h0
          have P1 := Lib.hid h1
          clear h0 h1
          obtain ⟨hx1, hx2⟩ := HXL.out.str x (List.mem_cons_self ..)
          have hxn := HXL.out.next hc
          obtain ⟨C, hC⟩ : ∃ C, (if c = 1 then (some ⟨b, o, none⟩ : Option Addr) else some ⟨b, o + 2, none⟩) = C := ⟨_, rfl⟩
          rw [hC] at hxn
          have HXN := Lib.hid hxn
          have HC := Lib.hid hC
          clear hxn hC
          have ka : 0 < n1 + 1 := by omega
          have kc : (1 : Int) ≤ (n1 : Int) + 1 := by omega
          have ka1 : ((n1 : Int) + 1 == 0) = false := intbne (by omega)
          obtain ⟨m1, rfl⟩ : ∃ k, n' = k + 1 := ⟨s.length, by have := HYL.out.len; simpa using this.symm⟩
          obtain ⟨b', o', rfl, hbs', h0, h1⟩ := HYL.out.head
          have R0 := Lib.hid h0
          have R1 := Lib.hid h1
          clear h0 h1
          obtain ⟨hy1, hy2⟩ := HYL.out.str y (List.mem_cons_self ..)
          have hyn := HYL.out.next hc'
          obtain ⟨D, hD⟩ : ∃ D, (if c' = 1 then (some ⟨b', o', none⟩ : Option Addr) else some ⟨b', o' + 2, none⟩) = D := ⟨_, rfl⟩
          rw [hD] at hyn
          have HYN := Lib.hid hyn
          have HD := Lib.hid hD
          clear hyn hD
          have kb : 0 < m1 + 1 := by omega
          have kd : (1 : Int) ≤ (m1 : Int) + 1 := by omega
          have kb1 : ((m1 : Int) + 1 == 0) = false := intbne (by omega)
          have HQ2 : Hid (zs ++ [(x.cur, x.amt, y.amt)] ++ bothL r s = bothL xs ys) := by
            have h1 := HQ.out
            rw [show bothL (x :: r) (y :: s) = (x.cur, x.amt, y.amt) :: bothL r s from both_eq heq r s] at h1
            show _ = _
            rw [List.append_assoc, List.singleton_append]; exact h1
          have g1 : bytesLess x.cur y.cur = false := by rw [heq]; exact ltS_irr _
          have g2 : (x.cur == y.cur) = true := by rw [beq_iff_eq]; exact heq
          have g3 : (y.cur == x.cur) = true := by rw [beq_iff_eq]; exact heq.symm
          clear heq
          clear HQ
          gi_wp2_with fail
          have hbA := below_alloc wr (.cells #[.string ⟨#[]⟩, .string ⟨#[]⟩] 201)
          have HN0 : (wr.alloc (.cells #[.string ⟨#[]⟩, .string ⟨#[]⟩] 201)).heap[wr.heap.size]? = some (.cells #[.string ⟨#[]⟩, .string ⟨#[]⟩] 201 (0, 0)) := heap_alloc_new wr _
          have na : wr.heap.size ≠ ab := by have := HA.out.lt; omega
          have nb : wr.heap.size ≠ bb := by have := HBb.out.lt; omega
          have no : wr.heap.size ≠ ob := by have := HO.out _ _ HX.out; omega
          have nw := hb.size
          obtain ⟨W1, hW1⟩ : ∃ W1, W1 = wr.alloc (.cells #[.string ⟨#[]⟩, .string ⟨#[]⟩] 201) := ⟨_, rfl⟩
          rw [← hW1] at hbA HN0 ⊢
          replace HX := Lib.hid (HM.out _ _ _ HX.out hbA)
          replace HA := Lib.hid (bx_below HA.out hbA)
          replace HBb := Lib.hid (bx_below HBb.out hbA)
          generalize wr.heap.size = nn at *
          have HLa := Lib.hid la
          have HLb := Lib.hid lb
          clear hW1 hbA qa qb la lb
          replace hb := HB.out _ _ HX.out
          refine wpIn_wide.2 ?_
          refine wp_region_kept (by kernel_rfl) (by kernel_rfl) ?_
          refine kept_val _ (fun _ => rfl) (fun ρ w hw => by have q0 := (bx_below HBb.out hw).cell; go_simp; first | done | with_reducible rfl) ?_
          iterate 3
            simp only [Act.put, List.setIfInBounds_toArray, List.set_cons_zero, List.set_cons_succ, Nat.reduceAdd]
            refine kept_val _ (fun _ => rfl) (fun ρ w hw => by go_simp; first | done | with_reducible rfl) ?_
          simp only [Act.put, List.setIfInBounds_toArray, List.set_cons_zero, List.set_cons_succ, Nat.reduceAdd]
          refine kept_val _ (fun _ => rfl) (fun ρ w hw => by have q0 := (bx_below HA.out hw).cell; go_simp; first | done | with_reducible rfl) ?_
          iterate 3
            simp only [Act.put, List.setIfInBounds_toArray, List.set_cons_zero, List.set_cons_succ, Nat.reduceAdd]
            refine kept_val _ (fun _ => rfl) (fun ρ w hw => by go_simp; first | done | with_reducible rfl) ?_
          simp only [Act.put, List.setIfInBounds_toArray, List.set_cons_zero, List.set_cons_succ, Nat.reduceAdd]
          refine kept_val _ (fun _ => rfl) (fun ρ w hw => by have q0 := (bx_below HA.out hw).cell; go_simp; first | done | with_reducible rfl) ?_
          iterate 2
            simp only [Act.put, List.setIfInBounds_toArray, List.set_cons_zero, List.set_cons_succ, Nat.reduceAdd]
            refine kept_val _ (fun _ => rfl) (fun ρ w hw => by go_simp; first | done | with_reducible rfl) ?_
          simp only [Act.put, List.setIfInBounds_toArray, List.set_cons_zero, List.set_cons_succ, Nat.reduceAdd]
          refine kept_val _ (fun _ => rfl) (fun ρ w hw => by have q0 := ((bto hb hw).cell (p := ⟨b, o, none⟩) hbs).trans P0.out; go_simp; first | done | with_reducible rfl) ?_
          simp only [Act.put, List.setIfInBounds_toArray, List.set_cons_zero, List.set_cons_succ, Nat.reduceAdd]
          refine kept_val _ (fun _ => rfl) (fun ρ w hw => by have q0 := (bx_below HBb.out hw).cell; go_simp; first | done | with_reducible rfl) ?_
          iterate 2
            simp only [Act.put, List.setIfInBounds_toArray, List.set_cons_zero, List.set_cons_succ, Nat.reduceAdd]
            refine kept_val _ (fun _ => rfl) (fun ρ w hw => by go_simp; first | done | with_reducible rfl) ?_
          simp only [Act.put, List.setIfInBounds_toArray, List.set_cons_zero, List.set_cons_succ, Nat.reduceAdd]
          refine kept_val _ (fun _ => rfl) (fun ρ w hw => by have q0 := ((bto hb hw).cell (p := ⟨b', o', none⟩) hbs').trans R0.out; go_simp; first | done | with_reducible rfl) ?_
          iterate 4
            simp only [Act.put, List.setIfInBounds_toArray, List.set_cons_zero, List.set_cons_succ, Nat.reduceAdd]
            refine kept_val _ (fun _ => rfl) (fun ρ w hw => by go_simp; first | done | with_reducible rfl) ?_
          simp only [Act.put, List.setIfInBounds_toArray, List.set_cons_zero, List.set_cons_succ, Nat.reduceAdd]
          refine kept_end (fun ρ W2 hF => ?_)
          have hF := hF.below
          replace HX := Lib.hid (HM.out _ _ _ HX.out hF)
          replace HA := Lib.hid (bx_below HA.out hF)
          replace HBb := Lib.hid (bx_below HBb.out hF)
          replace HN0 := (hF.block nn (Array.getElem?_eq_some_iff.1 HN0).1).trans HN0
          replace hb := HB.out _ _ HX.out
          clear hF
          have qa := HA.out.cell
          have qb := HBb.out.cell
          have p0 := (hb.cell (p := ⟨b, o, none⟩) hbs).trans P0.out
          have r0 := (hb.cell (p := ⟨b', o', none⟩) hbs').trans R0.out
          gi_wp2_with fail
          clear qa qb p0 r0
          have p1 := (hb.cell (p := ⟨b, o + 1, none⟩) hbs).trans P1.out
          have hbl := Nat.lt_of_lt_of_le hbs hb.size
          have f0 := blk_cell HN0 0
          have f1 := blk_frozen HN0 0
          have f2 := HA.out.cell
          have f3 := HA.out.frozen
          have f4 := HC.out
          have f5 := Ne.symm na
          gi_region
          have hs1 := HSs.out zs _ _ nn _ _ HX.out HN0 (by decide) no nw (grownBy_setCell2 _ nn 0 (.string ⟨(x.amt).toArray⟩))
          have hA1 := bx_far (i := 0) (u := (.string ⟨(x.amt).toArray⟩)) HA.out (Ne.symm na)
          have hB1 := bx_far (i := 0) (u := (.string ⟨(x.amt).toArray⟩)) HBb.out (Ne.symm nb)
          have hN1 := set_cells (.string ⟨(x.amt).toArray⟩) (j := 0) HN0
          have hs2 := HSs.out zs _ _ ab _ _ hs1 hA1 (by decide) hao hab (grownBy_setCell' _ ab (.slice C n1 (c - 1)))
          replace hs2 := HM.out _ _ _ hs2 (below_drw _)
          have hA2 : Boxed _ ab 42 _ := (bx_below (Boxed.set (.slice C n1 (c - 1)) hA1) (below_drw _))
          have hB2 : Boxed _ bb 42 _ := bx_below (bx_far (i := 0) (u := (.slice C n1 (c - 1))) hB1 hne.symm) (below_drw _)
          have hN2 := (Below.heap_setCell _ ⟨ab, 0, none⟩ (.slice C n1 (c - 1)) nn na).trans hN1
          obtain ⟨W3, hWb⟩ : ∃ Wb, Wb = ((W2.setCell ⟨nn, 0, none⟩ (.string ⟨(x.amt).toArray⟩)).setCell ⟨ab, 0, none⟩ (.slice C n1 (c - 1))).drew := ⟨_, rfl⟩
          replace hN2 : W3.heap[nn]? = _ := (congrArg (fun W : World => W.heap[nn]?) hWb).trans hN2
          rw [← hWb] at hs2 hA2 hB2 ⊢
          clear HX HA HBb HN0 hb
          have HX := Lib.hid hs2
          have HA := Lib.hid hA2
          have HBb := Lib.hid hB2
          have HN0 := hN2
          have hb := HB.out _ _ HX.out
          clear hWb f0 f1 f2 f3 f4 f5 hs1 hs2 hA1 hB1 hN1 hA2 hB2 hN2 hbl p1
          have qa := HA.out.cell
          have qb := HBb.out.cell
          have p0 := (hb.cell (p := ⟨b, o, none⟩) hbs).trans P0.out
          have r0 := (hb.cell (p := ⟨b', o', none⟩) hbs').trans R0.out
          gi_wp2_with fail
          clear qa qb p0 r0
          have r1 := (hb.cell (p := ⟨b', o' + 1, none⟩) hbs').trans R1.out
          have hbl := Nat.lt_of_lt_of_le hbs' hb.size
          have f0 := blk_cell HN0 1
          have f1 := blk_frozen HN0 1
          have f2 := HBb.out.cell
          have f3 := HBb.out.frozen
          have f4 := HD.out
          have f5 := Ne.symm nb
          gi_region
          have hs1 := HSs.out zs _ _ nn _ _ HX.out HN0 (by decide) no nw (grownBy_setCell2 _ nn 1 (.string ⟨(y.amt).toArray⟩))
          have hA1 := bx_far (i := 1) (u := (.string ⟨(y.amt).toArray⟩)) HBb.out (Ne.symm nb)
          have hB1 := bx_far (i := 1) (u := (.string ⟨(y.amt).toArray⟩)) HA.out (Ne.symm na)
          have hN1 := set_cells (.string ⟨(y.amt).toArray⟩) (j := 1) HN0
          have hs2 := HSs.out zs _ _ bb _ _ hs1 hA1 (by decide) hbo hbb (grownBy_setCell' _ bb (.slice D m1 (c' - 1)))
          replace hs2 := HM.out _ _ _ hs2 (below_drw _)
          have hA2 : Boxed _ bb 42 _ := (bx_below (Boxed.set (.slice D m1 (c' - 1)) hA1) (below_drw _))
          have hB2 : Boxed _ ab 42 _ := bx_below (bx_far (i := 0) (u := (.slice D m1 (c' - 1))) hB1 hne) (below_drw _)
          have hN2 := (Below.heap_setCell _ ⟨bb, 0, none⟩ (.slice D m1 (c' - 1)) nn nb).trans hN1
          obtain ⟨W4, hWb⟩ : ∃ Wb, Wb = ((W3.setCell ⟨nn, 1, none⟩ (.string ⟨(y.amt).toArray⟩)).setCell ⟨bb, 0, none⟩ (.slice D m1 (c' - 1))).drew := ⟨_, rfl⟩
          replace hN2 : W4.heap[nn]? = _ := (congrArg (fun W : World => W.heap[nn]?) hWb).trans hN2
          rw [← hWb] at hs2 hA2 hB2 ⊢
          clear HX HA HBb HN0 hb
          have HX := Lib.hid hs2
          have HBb := Lib.hid hA2
          have HA := Lib.hid hB2
          have HN0 := hN2
          have hb := HB.out _ _ HX.out
          clear hWb f0 f1 f2 f3 f4 f5 hs1 hs2 hA1 hB1 hN1 hA2 hB2 hN2 hbl r1
          have qa := HA.out.cell
          have qb := HBb.out.cell
          have p0 := (hb.cell (p := ⟨b, o, none⟩) hbs).trans P0.out
          have r0 := (hb.cell (p := ⟨b', o', none⟩) hbs').trans R0.out
          have u0 := blk_cell HN0 0
          have u1 := blk_cell HN0 1
          have hyy := HY.out zs (x.cur, x.amt, y.amt) _ _ _ HX.out hx1 hx2 hy2 (by omega) HA.out HBb.out
          have hyz : YieldAt Fence.wide (m - 1) Tryz.prog lw #[.string ⟨x.cur.toArray⟩, .agg #[.string ⟨x.amt.toArray⟩, .string ⟨y.amt.toArray⟩]] _ _ := hyy
          clear hyy
          obtain ⟨fn, tmps, assign, body, hyr, hR⟩ := hyz
          gi_wp2
          refine ⟨fun h => (by cases h), hR.mono ?_⟩
          rintro e W9 ⟨rfl, hS9, hA9, hB9⟩
          have HS9 := Lib.hid hS9
          have HA9 := Lib.hid hA9
          have HB9 := Lib.hid hB9
          clear hS9 hA9 hB9 hR hyr HX HA HBb HN0 u0 u1 hb qa qb p0 r0
          gi_wp2
          go_roundw
          case rel => exact ⟨r, s, C, D, n1, c - 1, m1, c' - 1, zs ++ [(x.cur, x.amt, y.amt)], HXN.out, HYN.out, by omega, by omega, by omega, by omega, HQ2.out, by rw [List.length_append, List.length_singleton]; omega, HS9.out, HA9.out, HB9.out⟩
          case measure =>
            have e1 := lenAt_eq HA9.out
            have e2 := lenAt_eq HB9.out
            have e3 := HLa.out
            have e4 := HLb.out
            rw [e1, e2, e3, e4]
            omega
        · skip
          obtain ⟨n1, rfl⟩ : ∃ k, n = k + 1 := ⟨r.length, by have := HXL.out.len; simpa using this.symm⟩
          obtain ⟨b, o, rfl, hbs, h0, h1⟩ := HXL.out.head
          have P0 := Lib.hid h0
          have P1 := Lib.hid h1
          clear h0 h1
          obtain ⟨hx1, hx2⟩ := HXL.out.str x (List.mem_cons_self ..)
          have hxn := HXL.out.next hc
          obtain ⟨C, hC⟩ : ∃ C, (if c = 1 then (some ⟨b, o, none⟩ : Option Addr) else some ⟨b, o + 2, none⟩) = C := ⟨_, rfl⟩
          rw [hC] at hxn
          have HXN := Lib.hid hxn
          have HC := Lib.hid hC
          clear hxn hC
          have ka : 0 < n1 + 1 := by omega
          have kc : (1 : Int) ≤ (n1 : Int) + 1 := by omega
          have ka1 : ((n1 : Int) + 1 == 0) = false := intbne (by omega)
          obtain ⟨m1, rfl⟩ : ∃ k, n' = k + 1 := ⟨s.length, by have := HYL.out.len; simpa using this.symm⟩
          obtain ⟨b', o', rfl, hbs', h0, h1⟩ := HYL.out.head
          have R0 := Lib.hid h0
          have R1 := Lib.hid h1
          clear h0 h1
          obtain ⟨hy1, hy2⟩ := HYL.out.str y (List.mem_cons_self ..)
          have hyn := HYL.out.next hc'
          obtain ⟨D, hD⟩ : ∃ D, (if c' = 1 then (some ⟨b', o', none⟩ : Option Addr) else some ⟨b', o' + 2, none⟩) = D := ⟨_, rfl⟩
          rw [hD] at hyn
          have HYN := Lib.hid hyn
          have HD := Lib.hid hD
          clear hyn hD
          have kb : 0 < m1 + 1 := by omega
          have kd : (1 : Int) ≤ (m1 : Int) + 1 := by omega
          have kb1 : ((m1 : Int) + 1 == 0) = false := intbne (by omega)
          have HQ2 : Hid (zs ++ [(y.cur, [], y.amt)] ++ bothL (x :: r) s = bothL xs ys) := by
            have h1 := HQ.out
            rw [show bothL (x :: r) (y :: s) = (y.cur, [], y.amt) :: bothL (x :: r) s from both_gt hgt r s] at h1
            show _ = _
            rw [List.append_assoc, List.singleton_append]; exact h1
          have g1 := ltS_asym hgt
          have g2 : (x.cur == y.cur) = false := by rw [beq_eq_false_iff_ne]; exact (ltS_ne hgt).symm
          clear hgt
          clear HQ
          gi_wp2_with fail
          have hbA := below_alloc wr (.cells #[.string ⟨#[]⟩, .string ⟨#[]⟩] 201)
          have HN0 : (wr.alloc (.cells #[.string ⟨#[]⟩, .string ⟨#[]⟩] 201)).heap[wr.heap.size]? = some (.cells #[.string ⟨#[]⟩, .string ⟨#[]⟩] 201 (0, 0)) := heap_alloc_new wr _
          have na : wr.heap.size ≠ ab := by have := HA.out.lt; omega
          have nb : wr.heap.size ≠ bb := by have := HBb.out.lt; omega
          have no : wr.heap.size ≠ ob := by have := HO.out _ _ HX.out; omega
          have nw := hb.size
          obtain ⟨W1, hW1⟩ : ∃ W1, W1 = wr.alloc (.cells #[.string ⟨#[]⟩, .string ⟨#[]⟩] 201) := ⟨_, rfl⟩
          rw [← hW1] at hbA HN0 ⊢
          replace HX := Lib.hid (HM.out _ _ _ HX.out hbA)
          replace HA := Lib.hid (bx_below HA.out hbA)
          replace HBb := Lib.hid (bx_below HBb.out hbA)
          generalize wr.heap.size = nn at *
          have HLa := Lib.hid la
          have HLb := Lib.hid lb
          clear hW1 hbA qa qb la lb
          replace hb := HB.out _ _ HX.out
          refine wpIn_wide.2 ?_
          refine wp_region_kept (by kernel_rfl) (by kernel_rfl) ?_
          refine kept_val _ (fun _ => rfl) (fun ρ w hw => by have q0 := (bx_below HBb.out hw).cell; go_simp; first | done | with_reducible rfl) ?_
          iterate 3
            simp only [Act.put, List.setIfInBounds_toArray, List.set_cons_zero, List.set_cons_succ, Nat.reduceAdd]
            refine kept_val _ (fun _ => rfl) (fun ρ w hw => by go_simp; first | done | with_reducible rfl) ?_
          simp only [Act.put, List.setIfInBounds_toArray, List.set_cons_zero, List.set_cons_succ, Nat.reduceAdd]
          refine kept_val _ (fun _ => rfl) (fun ρ w hw => by have q0 := (bx_below HA.out hw).cell; go_simp; first | done | with_reducible rfl) ?_
          iterate 3
            simp only [Act.put, List.setIfInBounds_toArray, List.set_cons_zero, List.set_cons_succ, Nat.reduceAdd]
            refine kept_val _ (fun _ => rfl) (fun ρ w hw => by go_simp; first | done | with_reducible rfl) ?_
          simp only [Act.put, List.setIfInBounds_toArray, List.set_cons_zero, List.set_cons_succ, Nat.reduceAdd]
          refine kept_val _ (fun _ => rfl) (fun ρ w hw => by have q0 := (bx_below HA.out hw).cell; go_simp; first | done | with_reducible rfl) ?_
          iterate 2
            simp only [Act.put, List.setIfInBounds_toArray, List.set_cons_zero, List.set_cons_succ, Nat.reduceAdd]
            refine kept_val _ (fun _ => rfl) (fun ρ w hw => by go_simp; first | done | with_reducible rfl) ?_
          simp only [Act.put, List.setIfInBounds_toArray, List.set_cons_zero, List.set_cons_succ, Nat.reduceAdd]
          refine kept_val _ (fun _ => rfl) (fun ρ w hw => by have q0 := ((bto hb hw).cell (p := ⟨b, o, none⟩) hbs).trans P0.out; go_simp; first | done | with_reducible rfl) ?_
          simp only [Act.put, List.setIfInBounds_toArray, List.set_cons_zero, List.set_cons_succ, Nat.reduceAdd]
          refine kept_val _ (fun _ => rfl) (fun ρ w hw => by have q0 := (bx_below HBb.out hw).cell; go_simp; first | done | with_reducible rfl) ?_
          iterate 2
            simp only [Act.put, List.setIfInBounds_toArray, List.set_cons_zero, List.set_cons_succ, Nat.reduceAdd]
            refine kept_val _ (fun _ => rfl) (fun ρ w hw => by go_simp; first | done | with_reducible rfl) ?_
          simp only [Act.put, List.setIfInBounds_toArray, List.set_cons_zero, List.set_cons_succ, Nat.reduceAdd]
          refine kept_val _ (fun _ => rfl) (fun ρ w hw => by have q0 := ((bto hb hw).cell (p := ⟨b', o', none⟩) hbs').trans R0.out; go_simp; first | done | with_reducible rfl) ?_
          iterate 4
            simp only [Act.put, List.setIfInBounds_toArray, List.set_cons_zero, List.set_cons_succ, Nat.reduceAdd]
            refine kept_val _ (fun _ => rfl) (fun ρ w hw => by go_simp; first | done | with_reducible rfl) ?_
          simp only [Act.put, List.setIfInBounds_toArray, List.set_cons_zero, List.set_cons_succ, Nat.reduceAdd]
          refine kept_end (fun ρ W2 hF => ?_)
          have hF := hF.below
          replace HX := Lib.hid (HM.out _ _ _ HX.out hF)
          replace HA := Lib.hid (bx_below HA.out hF)
          replace HBb := Lib.hid (bx_below HBb.out hF)
          replace HN0 := (hF.block nn (Array.getElem?_eq_some_iff.1 HN0).1).trans HN0
          replace hb := HB.out _ _ HX.out
          clear hF
          have qa := HA.out.cell
          have qb := HBb.out.cell
          have p0 := (hb.cell (p := ⟨b, o, none⟩) hbs).trans P0.out
          have r0 := (hb.cell (p := ⟨b', o', none⟩) hbs').trans R0.out
          gi_wp2_with fail
          clear qa qb p0 r0
          have r1 := (hb.cell (p := ⟨b', o' + 1, none⟩) hbs').trans R1.out
          have hbl := Nat.lt_of_lt_of_le hbs' hb.size
          have f0 := blk_cell HN0 1
          have f1 := blk_frozen HN0 1
          have f2 := HBb.out.cell
          have f3 := HBb.out.frozen
          have f4 := HD.out
          have f5 := Ne.symm nb
          gi_region
          have hs1 := HSs.out zs _ _ nn _ _ HX.out HN0 (by decide) no nw (grownBy_setCell2 _ nn 1 (.string ⟨(y.amt).toArray⟩))
          have hA1 := bx_far (i := 1) (u := (.string ⟨(y.amt).toArray⟩)) HBb.out (Ne.symm nb)
          have hB1 := bx_far (i := 1) (u := (.string ⟨(y.amt).toArray⟩)) HA.out (Ne.symm na)
          have hN1 := set_cells (.string ⟨(y.amt).toArray⟩) (j := 1) HN0
          have hs2 := HSs.out zs _ _ bb _ _ hs1 hA1 (by decide) hbo hbb (grownBy_setCell' _ bb (.slice D m1 (c' - 1)))
          replace hs2 := HM.out _ _ _ hs2 (below_drw _)
          have hA2 : Boxed _ bb 42 _ := (bx_below (Boxed.set (.slice D m1 (c' - 1)) hA1) (below_drw _))
          have hB2 : Boxed _ ab 42 _ := bx_below (bx_far (i := 0) (u := (.slice D m1 (c' - 1))) hB1 hne) (below_drw _)
          have hN2 := (Below.heap_setCell _ ⟨bb, 0, none⟩ (.slice D m1 (c' - 1)) nn nb).trans hN1
          obtain ⟨W3, hWb⟩ : ∃ Wb, Wb = ((W2.setCell ⟨nn, 1, none⟩ (.string ⟨(y.amt).toArray⟩)).setCell ⟨bb, 0, none⟩ (.slice D m1 (c' - 1))).drew := ⟨_, rfl⟩
          replace hN2 : W3.heap[nn]? = _ := (congrArg (fun W : World => W.heap[nn]?) hWb).trans hN2
          rw [← hWb] at hs2 hA2 hB2 ⊢
          clear HX HA HBb HN0 hb
          have HX := Lib.hid hs2
          have HBb := Lib.hid hA2
          have HA := Lib.hid hB2
          have HN0 := hN2
          have hb := HB.out _ _ HX.out
          clear hWb f0 f1 f2 f3 f4 f5 hs1 hs2 hA1 hB1 hN1 hA2 hB2 hN2 hbl r1
          have qa := HA.out.cell
          have qb := HBb.out.cell
          have p0 := (hb.cell (p := ⟨b, o, none⟩) hbs).trans P0.out
          have r0 := (hb.cell (p := ⟨b', o', none⟩) hbs').trans R0.out
          have u0 := blk_cell HN0 0
          have u1 := blk_cell HN0 1
          have hyy := HY.out zs (y.cur, [], y.amt) _ _ _ HX.out hy1 (Nat.zero_le 1000) hy2 (by omega) HA.out HBb.out
          have hyz : YieldAt Fence.wide (m - 1) Tryz.prog lw #[.string ⟨y.cur.toArray⟩, .agg #[.string ⟨#[]⟩, .string ⟨y.amt.toArray⟩]] _ _ := hyy
          clear hyy
          obtain ⟨fn, tmps, assign, body, hyr, hR⟩ := hyz
          gi_wp2
          refine ⟨fun h => (by cases h), hR.mono ?_⟩
          rintro e W9 ⟨rfl, hS9, hA9, hB9⟩
          have HS9 := Lib.hid hS9
          have HA9 := Lib.hid hA9
          have HB9 := Lib.hid hB9
          clear hS9 hA9 hB9 hR hyr HX HA HBb HN0 u0 u1 hb qa qb p0 r0
          gi_wp2
          go_roundw
          case rel => exact ⟨x :: r, s, _, D, n1 + 1, c, m1, c' - 1, zs ++ [(y.cur, [], y.amt)], HXL.out, HYN.out, by omega, by omega, by omega, by omega, HQ2.out, by rw [List.length_append, List.length_singleton]; omega, HS9.out, HA9.out, HB9.out⟩
          case measure =>
            have e1 := lenAt_eq HA9.out
            have e2 := lenAt_eq HB9.out
            have e3 := HLa.out
            have e4 := HLb.out
            rw [e1, e2, e3, e4]
            omega
end Go.Proofs.YtgnppdkeiihlfaaGreatDoor
namespace Go.Proofs.YtgnppdkeiihlfaaGreatDoor
open Go.RowKit Num
def RetB (w : World) (f : Nat) (args : Array Value) (v : Value) : Prop := ∀ w' : World, Below w.heap.size w w' → Calls Tryz.prog f args w' fun e w'' => e = .returned v ∧ Below w'.heap.size w' w''
theorem RetB.of {w w' : World} {f : Nat} {args : Array Value} {v : Value} (h : RetB w f args v) (_ : Glob w) (hb : Below w.heap.size w w') : Calls Tryz.prog f args w' fun e w'' => e = .returned v ∧ Below w'.heap.size w' w'' := h w' hb
end Go.Proofs.YtgnppdkeiihlfaaGreatDoor
namespace Go.Proofs.YtgnppdkeiihlfaaGreatDoor
open Go.RowKit Num
open Go.Op (bytesLess)
def ordM : Option (List UInt8) → List UInt8 → Bool
  | none, _ => false
  | some p, c => !bytesLess p c
def bagL : Option (List UInt8) → List Mon → Int
  | _, [] => 0
  | o, x :: r => if ¬ codeB x.cur = true then 23 else if ¬ x.amt = canon (val x.amt) then 1 else if x.amt = [] then 11 else if ordM o x.cur = true then 8 else bagL (some x.cur) r
def bagE (ts : List Mon) : Int := if 16 < ts.length then 4 else bagL none ts
def prevC (ts : List Mon) : Nat → Option (List UInt8)
  | 0 => none
  | k + 1 => (ts[k]?).map (·.cur)
theorem bagL_step {ts : List Mon} {k : Nat} {x : Mon} (h : ts[k]? = some x) : bagL (prevC ts k) (ts.drop k) = if ¬ codeB x.cur = true then 23 else if ¬ x.amt = canon (val x.amt) then 1 else if x.amt = [] then 11 else if ordM (prevC ts k) x.cur = true then 8 else bagL (prevC ts (k + 1)) (ts.drop (k + 1)) := by
  obtain ⟨hk, rfl⟩ := List.getElem?_eq_some_iff.1 h
  have e : prevC ts (k + 1) = some ts[k].cur := by show (ts[k]?).map (·.cur) = _; rw [h]; rfl
  rw [List.drop_eq_getElem_cons hk, e]; rfl
theorem bagL_end {ts : List Mon} {k : Nat} (h : ts.length ≤ k) : bagL (prevC ts k) (ts.drop k) = 0 := by rw [List.drop_of_length_le h]; cases prevC ts k <;> rfl
def Codes (xs : List Mon) : Prop := ∀ x ∈ xs, codeB x.cur = true
theorem bagL_mk : ∀ (xs : List Mon) (o : Option (List UInt8)), (∀ p, o = some p → ∀ x ∈ xs, bytesLess p x.cur = true) → Srt xs → Can xs → Codes xs → bagL o xs = 0
  | [], o, _, _, _, _ => by cases o <;> rfl
  | x :: r, o, h1, h2, h3, h4 => by
    have hx := h3 x (List.mem_cons_self ..)
    have ho : ¬ ordM o x.cur = true := by
      cases o with
      | none => exact fun h => by cases h
      | some p =>
        show ¬ (!bytesLess p x.cur) = true
        rw [h1 p rfl x (List.mem_cons_self ..)]; decide
    show (if ¬ codeB x.cur = true then (23 : Int) else if ¬ x.amt = canon (val x.amt) then 1 else if x.amt = [] then 11 else if ordM o x.cur = true then 8 else bagL (some x.cur) r) = 0
    rw [if_neg (fun h => h (h4 x (List.mem_cons_self ..))), if_neg (fun h => h hx.1), if_neg hx.2, if_neg ho]
    exact bagL_mk r (some x.cur) (fun p hp y hy => by injection hp with hp; subst hp; exact srt_head h2 y hy) (srt_tail h2) (can_tail h3) (fun y hy => h4 y (List.mem_cons_of_mem _ hy))
theorem bagE_mk {xs : List Mon} (h : Bag xs) (h2 : Codes xs) (h3 : xs.length ≤ 16) : bagE xs = 0 := by
  unfold bagE
  rw [if_neg (by omega)]
  exact bagL_mk xs none (fun p hp => by cases hp) h.srt h.can h2
structure ML (w : World) (A : Option Addr) (ts : List Mon) (n : Nat) : Prop where
  len : ts.length = n
  sm : n ≤ 1000
  str : ∀ t ∈ ts, t.cur.length ≤ 1000 ∧ t.amt.length ≤ 1000
  mem : MonAt w A ts
theorem ML.below {w w' : World} {A : Option Addr} {ts : List Mon} {n : Nat} (h : ML w A ts n) (hb : Below w.heap.size w w') : ML w' A ts n := ⟨h.len, h.sm, h.str, h.mem.below hb⟩
set_option maxHeartbeats 8000000 in
set_option maxRecDepth 100000 in
theorem mCheck (A : Option Addr) (ts : List Mon) (n c : Nat) (w : World) (hG : Glob w) (h : ML w A ts n) :
    Calls Tryz.prog 79 #[.slice A n c] w fun e w' => e = .returned (.int .i64 (bagE ts)) ∧ Below w.heap.size w w' := by
  obtain ⟨hn, hn67, hs, h⟩ := h
  by_cases h4 : 16 < n
  · have HV : Hid (bagE ts = 4) := by show _ = _; unfold bagE; rw [if_pos (by omega)]
    have e1 : decide (16 < n) = true := decide_eq_true h4
    clear hn hs h
    go_enter Tryz.func79, Tryz.ntmps79
    go_wp2
    go_ret
    exact ⟨reti HV.out.symm, Below.refl _ _⟩
  have e1 : decide (16 < n) = false := decide_eq_false h4
  have HE : Hid (bagE ts = bagL none ts) := by show _ = _; unfold bagE; rw [if_neg (by omega)]
  have HI := Lib.hid h
  have HS := Lib.hid hs
  have HNn := Lib.hid hn
  clear h hn hs
  go_enter Tryz.func79, Tryz.ntmps79
  go_wp2_with fail
  clear e1
  go_loopw [10] (fun iv wr => ∃ k : Nat, k ≤ n ∧ iv = .int .i64 (k : Int) ∧ Hid (bagL none ts = bagL (prevC ts k) (ts.drop k)) ∧ Below w.heap.size w wr) (fun iv _ => n - (intOf iv).toNat)
  case atStart => exact ⟨0, Nat.zero_le _, rfl, rfl, Below.refl _ _⟩
  case round =>
    obtain ⟨k, hk, rfl, HK, hb⟩ := hrel
    have hnl := HNn.out
    by_cases hlk : k < n
    rotate_left
    · have HV : Hid (bagE ts = 0) := by show _ = _; rw [HE.out, HK.out, bagL_end (by omega)]
      clear HK HE HI HS
      go_wp2
      go_ret
      exact ⟨reti HV.out.symm, hb⟩
    obtain ⟨t, ht⟩ : ∃ t, ts[k]? = some t := ⟨_, List.getElem?_eq_getElem (by omega)⟩
    obtain ⟨b, o, hA, hbs, p0, p1⟩ := (HI.out.below hb) k t ht
    subst hA
    obtain ⟨hv40, hf40⟩ := HS.out t (List.mem_of_getElem? ht)
    have HN := Lib.hid (bagL_step ht)
    have CD := Lib.hid (mCode (l := t.cur) (by omega))
    have hbA := below_alloc wr (.cells #[.string ⟨t.cur.toArray⟩, .string ⟨t.amt.toArray⟩] 48)
    have x4 := FBox.new wr (.string ⟨t.cur.toArray⟩) (.string ⟨t.amt.toArray⟩) 48
    replace hb := bto hb hbA
    have hbs := Nat.lt_of_lt_of_le hbs hbA.size
    clear hbA
    clear ht
    by_cases gd : codeB t.cur = true
    rotate_left
    · have HG := Lib.hid gd
      have e1 := not_true_b gd
      rw [e1] at CD
      clear gd e1
      skip
      have q0 := x4.c0
      have q1 := x4.c1
      go_wp2_with fail
      ((with_reducible refine (CD.out.of hG hb).mono ?_); rintro e w10 ⟨rfl, hb10⟩)
      clear q0 q1
      replace x4 := x4.below hb10
      replace hbs := Nat.lt_of_lt_of_le hbs hb10.size
      replace hb := bto hb hb10
      clear hb10
      have HV : Hid (bagE ts = 23) := by show _ = _; rw [HE.out, HK.out, HN.out, if_pos HG.out]
      clear HK HN HE HI HS
      have q0 := x4.c0
      have q1 := x4.c1
      go_wp2
      go_ret
      exact ⟨reti HV.out.symm, hb⟩
    have HGd := Lib.hid (fun (h : ¬ codeB t.cur = true) => h gd)
    rw [gd] at CD
    clear gd
    have q0 := x4.c0
    have q1 := x4.c1
    go_wp2_with fail
    ((with_reducible refine (CD.out.of hG hb).mono ?_); rintro e w11 ⟨rfl, hb11⟩)
    clear q0 q1
    replace x4 := x4.below hb11
    replace hbs := Nat.lt_of_lt_of_le hbs hb11.size
    replace hb := bto hb hb11
    clear hb11
    clear CD
    clear p0 p1
    by_cases gv : t.amt = canon (val t.amt)
    rotate_left
    · have CC := Lib.hid (riCheck (l := t.amt) (c := 1) (by omega) (if_neg gv))
      have HB := Lib.hid gv
      clear gv
      have q0 := x4.c0
      have q1 := x4.c1
      go_wp2_with fail
      ((with_reducible refine (CC.out.of hG hb).mono ?_); rintro e w12 ⟨rfl, hb12⟩)
      clear q0 q1
      replace x4 := x4.below hb12
      replace hbs := Nat.lt_of_lt_of_le hbs hb12.size
      replace hb := bto hb hb12
      clear hb12
      have HV : Hid (bagE ts = 1) := by show _ = _; rw [HE.out, HK.out, HN.out, if_neg HGd.out, if_pos HB.out]
      clear HK HN HE HI HS
      have q0 := x4.c0
      have q1 := x4.c1
      go_wp2
      go_ret
      exact ⟨reti HV.out.symm, hb⟩
    have CC := Lib.hid (riCheck (l := t.amt) (c := 0) (by omega) (if_pos gv))
    have HGv := Lib.hid (fun (h : ¬ t.amt = canon (val t.amt)) => h gv)
    clear gv
    have q0 := x4.c0
    have q1 := x4.c1
    go_wp2_with fail
    ((with_reducible refine (CC.out.of hG hb).mono ?_); rintro e w13 ⟨rfl, hb13⟩)
    clear q0 q1
    replace x4 := x4.below hb13
    replace hbs := Nat.lt_of_lt_of_le hbs hb13.size
    replace hb := bto hb hb13
    clear hb13
    clear CC
    by_cases ge : t.amt = []
    · have HC := Lib.hid ge
      have e1 : (t.amt == []) = true := by rw [beq_iff_eq]; exact ge
      have e2 : (t.amt).isEmpty = true := by rw [List.isEmpty_iff]; exact ge
      clear ge
      have HV : Hid (bagE ts = 11) := by show _ = _; rw [HE.out, HK.out, HN.out, if_neg HGd.out, if_neg HGv.out, if_pos HC.out]
      clear HK HN HE HI HS
      have q0 := x4.c0
      have q1 := x4.c1
      go_wp2
      go_ret
      exact ⟨reti HV.out.symm, hb⟩
    have HC := Lib.hid ge
    have e1 : (t.amt == []) = false := by rw [beq_eq_false_iff_ne]; exact ge
    have e2 : (t.amt).isEmpty = false := by rw [List.isEmpty_eq_false_iff]; exact ge
    clear ge
    have q0 := x4.c0
    have q1 := x4.c1
    go_wp2_with fail
    clear q0 q1
    clear e1 e2
    cases k with
    | zero =>
      have HV : Hid (bagL none ts = bagL (prevC ts (0 + 1)) (ts.drop (0 + 1))) := by show _ = _; rw [HK.out, HN.out, if_neg HGd.out, if_neg HGv.out, if_neg HC.out, if_neg (show ¬ ordM (prevC ts 0) t.cur = true from fun h => by cases h)]
      clear HK HN
      refine wp_region_kept (by kernel_rfl) (by kernel_rfl) ?_
      iterate 3
        refine kept_val _ (fun _ => rfl) (fun ρ w hw => by go_simp; first | done | with_reducible rfl) ?_
        simp only [Act.put, List.setIfInBounds_toArray, List.set_cons_zero, List.set_cons_succ, Nat.reduceAdd]
      iterate 9
        refine kept_off (fun _ => rfl) ?_
        simp only [Act.put, List.setIfInBounds_toArray, List.set_cons_zero, List.set_cons_succ, Nat.reduceAdd]
      iterate 2
        refine kept_val _ (fun _ => rfl) (fun ρ w hw => by go_simp; first | done | with_reducible rfl) ?_
        simp only [Act.put, List.setIfInBounds_toArray, List.set_cons_zero, List.set_cons_succ, Nat.reduceAdd]
      refine kept_end (fun ρ w20 hF => ?_)
      have hbF := hF.below
      clear hF
      replace x4 := x4.below hbF
      replace hb := bto hb hbF
      clear hbF
      go_wp2
      go_roundw
      case rel => exact ⟨0 + 1, by omega, by go_num, HV.out, hb⟩
      case measure => simp [intOf]; omega
    | succ k' =>
      obtain ⟨u, hu⟩ : ∃ u, ts[k']? = some u := ⟨_, List.getElem?_eq_getElem (by omega)⟩
      obtain ⟨b', o', hA', hbs', r0, -⟩ := (HI.out.below hb) k' u hu
      obtain ⟨rfl, rfl⟩ : b = b' ∧ o = o' := by injection hA' with hA'; injection hA' with h1 h2; exact ⟨h1, h2⟩
      have hpd : prevC ts (k' + 1) = some u.cur := by show (ts[k']?).map (·.cur) = _; rw [hu]; rfl
      have HPd := Lib.hid hpd
      have hwr : IntKind.i64.wrap (k' : Int) = (k' : Int) := Go.IntWalk.i64_in _ (by omega)
      have hkn : k' < n := by omega
      have kk1 : (0 : Int) ≤ (k' : Int) + 1 := by omega
      have kk2 : (k' : Int) + 1 < (n : Int) := by omega
      clear hu hA' hpd hbs'
      cases hlt : bytesLess u.cur t.cur
      · have HB : Hid (ordM (prevC ts (k' + 1)) t.cur = true) := by show _ = _; rw [HPd.out]; show (!bytesLess u.cur t.cur) = true; rw [hlt]; rfl
        refine wp_region_kept (by kernel_rfl) (by kernel_rfl) ?_
        refine kept_val _ (fun _ => rfl) (fun ρ w hw => by go_simp; first | done | with_reducible rfl) ?_
        simp only [Act.put, List.setIfInBounds_toArray, List.set_cons_zero, List.set_cons_succ, Nat.reduceAdd]
        refine kept_val (.bool true) (fun _ => rfl) (fun ρ w hw => by go_simp; first | done | omega | (simp; omega)) ?_
        iterate 6
          simp only [Act.put, List.setIfInBounds_toArray, List.set_cons_zero, List.set_cons_succ, Nat.reduceAdd]
          refine kept_val _ (fun _ => rfl) (fun ρ w hw => by go_simp; first | done | with_reducible rfl) ?_
        simp only [Act.put, List.setIfInBounds_toArray, List.set_cons_zero, List.set_cons_succ, Nat.reduceAdd]
        refine kept_val _ (fun _ => rfl) (fun ρ w hw => by have q0 := (hw.cell (p := ⟨b, o + k' * 2, none⟩) hbs).trans r0; go_simp; first | done | with_reducible rfl) ?_
        simp only [Act.put, List.setIfInBounds_toArray, List.set_cons_zero, List.set_cons_succ, Nat.reduceAdd]
        refine kept_val _ (fun _ => rfl) (fun ρ w hw => by go_simp; first | done | with_reducible rfl) ?_
        simp only [Act.put, List.setIfInBounds_toArray, List.set_cons_zero, List.set_cons_succ, Nat.reduceAdd]
        refine kept_val _ (fun _ => rfl) (fun ρ w hw => by have q0 := (x4.below hw).c0; go_simp; first | done | with_reducible rfl) ?_
        iterate 3
          simp only [Act.put, List.setIfInBounds_toArray, List.set_cons_zero, List.set_cons_succ, Nat.reduceAdd]
          refine kept_val _ (fun _ => rfl) (fun ρ w hw => by go_simp; first | done | with_reducible rfl) ?_
        simp only [Act.put, List.setIfInBounds_toArray, List.set_cons_zero, List.set_cons_succ, Nat.reduceAdd]
        refine kept_end (fun ρ w20 hF => ?_)
        have hbF := hF.below
        clear hF
        replace x4 := x4.below hbF
        replace hb := bto hb hbF
        clear hbF
        clear r0
        have HV : Hid (bagE ts = 8) := by show _ = _; rw [HE.out, HK.out, HN.out, if_neg HGd.out, if_neg HGv.out, if_neg HC.out, if_pos HB.out]
        clear HK HN HE HI HS
        have q0 := x4.c0
        have q1 := x4.c1
        go_wp2
        go_ret
        exact ⟨reti HV.out.symm, hb⟩
      · have HB : Hid (¬ ordM (prevC ts (k' + 1)) t.cur = true) := by show ¬ _; rw [HPd.out]; show ¬ (!bytesLess u.cur t.cur) = true; rw [hlt]; decide
        have HV : Hid (bagL none ts = bagL (prevC ts ((k' + 1) + 1)) (ts.drop ((k' + 1) + 1))) := by show _ = _; rw [HK.out, HN.out, if_neg HGd.out, if_neg HGv.out, if_neg HC.out, if_neg HB.out]
        clear HK HN
        refine wp_region_kept (by kernel_rfl) (by kernel_rfl) ?_
        refine kept_val _ (fun _ => rfl) (fun ρ w hw => by go_simp; first | done | with_reducible rfl) ?_
        simp only [Act.put, List.setIfInBounds_toArray, List.set_cons_zero, List.set_cons_succ, Nat.reduceAdd]
        refine kept_val (.bool true) (fun _ => rfl) (fun ρ w hw => by go_simp; first | done | omega | (simp; omega)) ?_
        iterate 6
          simp only [Act.put, List.setIfInBounds_toArray, List.set_cons_zero, List.set_cons_succ, Nat.reduceAdd]
          refine kept_val _ (fun _ => rfl) (fun ρ w hw => by go_simp; first | done | with_reducible rfl) ?_
        simp only [Act.put, List.setIfInBounds_toArray, List.set_cons_zero, List.set_cons_succ, Nat.reduceAdd]
        refine kept_val _ (fun _ => rfl) (fun ρ w hw => by have q0 := (hw.cell (p := ⟨b, o + k' * 2, none⟩) hbs).trans r0; go_simp; first | done | with_reducible rfl) ?_
        simp only [Act.put, List.setIfInBounds_toArray, List.set_cons_zero, List.set_cons_succ, Nat.reduceAdd]
        refine kept_val _ (fun _ => rfl) (fun ρ w hw => by go_simp; first | done | with_reducible rfl) ?_
        simp only [Act.put, List.setIfInBounds_toArray, List.set_cons_zero, List.set_cons_succ, Nat.reduceAdd]
        refine kept_val _ (fun _ => rfl) (fun ρ w hw => by have q0 := (x4.below hw).c0; go_simp; first | done | with_reducible rfl) ?_
        iterate 3
          simp only [Act.put, List.setIfInBounds_toArray, List.set_cons_zero, List.set_cons_succ, Nat.reduceAdd]
          refine kept_val _ (fun _ => rfl) (fun ρ w hw => by go_simp; first | done | with_reducible rfl) ?_
        simp only [Act.put, List.setIfInBounds_toArray, List.set_cons_zero, List.set_cons_succ, Nat.reduceAdd]
        refine kept_end (fun ρ w20 hF => ?_)
        have hbF := hF.below
        clear hF
        replace x4 := x4.below hbF
        replace hb := bto hb hbF
        clear hbF
        clear r0
        go_wp2
        go_roundw
        case rel => exact ⟨(k' + 1) + 1, by omega, by go_num, HV.out, hb⟩
        case measure => simp [intOf]; omega
def findM (ts : List Mon) (code : List UInt8) : Option Mon := ts.find? (fun t => t.cur == code)
theorem findM_drop {ts : List Mon} {code : List UInt8} {k : Nat} {t : Mon} (h : ts[k]? = some t) : findM (ts.drop k) code = if t.cur = code then some t else findM (ts.drop (k + 1)) code := by
  obtain ⟨hk, rfl⟩ := List.getElem?_eq_some_iff.1 h
  unfold findM
  rw [List.drop_eq_getElem_cons hk, List.find?_cons]
  by_cases h1 : ts[k].cur = code
  · rw [if_pos h1]; simp [h1]
  · rw [if_neg h1]
    have : (ts[k].cur == code) = false := by rw [beq_eq_false_iff_ne]; exact h1
    rw [this]
def monV : Option Mon → Value
  | some t => .tuple #[.agg #[.string ⟨t.cur.toArray⟩, .string ⟨t.amt.toArray⟩], .bool true]
  | none => .tuple #[.agg #[.string ⟨#[]⟩, .string ⟨#[]⟩], .bool false]
theorem mAmtClo (t : Mon) (code : List UInt8) (bc : Nat) (w : World) (hc : w.cell? ⟨bc, 0, none⟩ = some (.string ⟨code.toArray⟩)) (hlt : bc < w.heap.size) {r : Bool} (hr : (t.cur == code) = r) :
    Calls Tryz.prog 99 #[.agg #[.string ⟨t.cur.toArray⟩, .string ⟨t.amt.toArray⟩], .pointer (some ⟨bc, 0, none⟩)] w fun e w' => e = .returned (.bool r) ∧ Below w.heap.size w w' := by
  have hb := below_alloc w (.cells #[.string ⟨t.cur.toArray⟩, .string ⟨t.amt.toArray⟩] 48)
  have q0 := (hb.cell (p := ⟨bc, 0, none⟩) hlt).trans hc
  go_enter Tryz.func99, Tryz.ntmps99
  go_wp2
  go_ret
  exact ⟨rfl, hb⟩
set_option maxHeartbeats 2000000 in
set_option maxRecDepth 100000 in
theorem mfindM (A : Option Addr) (ts : List Mon) (c : Nat) (code : List UInt8) (bc : Nat) (w : World) (hn : ts.length ≤ 1000000000) (h : MonAt w A ts) (hc : w.cell? ⟨bc, 0, none⟩ = some (.string ⟨code.toArray⟩)) (hlt : bc < w.heap.size) :
    Calls Tryz.prog 98 #[.slice A ts.length c, .func (Fn.func 99) #[] #[.pointer (some ⟨bc, 0, none⟩)]] w fun e w' => e = .returned (monV (findM ts code)) ∧ Below w.heap.size w w' := by
  have HI := Lib.hid h
  have HC := Lib.hid hc
  have x4 := FBox.new w (.string ⟨#[]⟩) (.string ⟨#[]⟩) 48
  have hb0 := below_alloc w (.cells #[.string ⟨#[]⟩, .string ⟨#[]⟩] 48)
  clear h hc
  go_enter Tryz.func98, Tryz.ntmps98
  go_wp2_with fail
  go_loopw [11] (fun iv wr => ∃ k : Nat, k ≤ ts.length ∧ iv = .int .i64 (k : Int) ∧ Hid (findM ts code = findM (ts.drop k) code) ∧ FBox wr w.heap.size (.string ⟨#[]⟩) (.string ⟨#[]⟩) ∧ Below w.heap.size w wr) (fun iv _ => ts.length - (intOf iv).toNat)
  case atStart => exact ⟨0, Nat.zero_le _, rfl, rfl, x4, hb0⟩
  case round =>
    obtain ⟨k, hk, rfl, HK, y4, hb⟩ := hrel
    by_cases hlk : k < ts.length
    · obtain ⟨t, ht⟩ : ∃ t, ts[k]? = some t := ⟨_, List.getElem?_eq_getElem hlk⟩
      obtain ⟨b, o, rfl, hbs, p0, p1⟩ := (HI.out.below hb) k t ht
      have HD := Lib.hid (findM_drop (code := code) ht)
      have hbA := below_alloc wr (.cells #[.string ⟨t.cur.toArray⟩, .string ⟨t.amt.toArray⟩] 48)
      have x7 := FBox.new wr (.string ⟨t.cur.toArray⟩) (.string ⟨t.amt.toArray⟩) 48
      have qc := ((bto hb hbA).cell (p := ⟨bc, 0, none⟩) hlt).trans HC.out
      have hlt2 : bc < (wr.alloc (.cells #[.string ⟨t.cur.toArray⟩, .string ⟨t.amt.toArray⟩] 48)).heap.size := Nat.lt_of_lt_of_le hlt (bto hb hbA).size
      have CF := Lib.hid (fun r hr => mAmtClo t code bc _ qc hlt2 (r := r) hr)
      replace y4 := y4.below hbA
      replace hb := bto hb hbA
      clear ht hbA qc hlt2
      by_cases he : t.cur = code
      · have e1 : (t.cur == code) = true := by rw [beq_iff_eq]; exact he
        have H1 := Lib.hid (CF.out true e1)
        have HV : Hid (monV (findM ts code) = monV (some t)) := by show _ = _; rw [HK.out, HD.out, if_pos he]
        clear CF e1 he HD HK
        go_wp2_with fail
        ((with_reducible refine H1.out.mono ?_); rintro e w2 ⟨rfl, hb2⟩)
        replace y4 := y4.below hb2
        replace x7 := x7.below hb2
        replace hb := bto hb hb2
        have q0 := y4.c0
        have q1 := y4.c1
        have q2 := y4.f0
        have q3 := y4.f1
        have q4 := x7.c0
        have q5 := x7.c1
        go_wp2
        have hy := y4.set (.string ⟨t.cur.toArray⟩) (.string ⟨t.amt.toArray⟩)
        have d0 := hy.c0
        have d1 := hy.c1
        refine bodyPost_ret (v := .tuple #[.agg #[.string ⟨t.cur.toArray⟩, .string ⟨t.amt.toArray⟩], .bool true]) (by simp [results, Tryz.results98, go_sem, d0, d1]) rfl ?_
        exact ⟨by rw [HV.out]; rfl, below_set2 hb (Nat.le_refl _) _ _⟩
      · have e1 : (t.cur == code) = false := by rw [beq_eq_false_iff_ne]; exact he
        have H1 := Lib.hid (CF.out false e1)
        have HV : Hid (findM ts code = findM (ts.drop (k + 1)) code) := by show _ = _; rw [HK.out, HD.out, if_neg he]
        clear CF e1 he HD HK
        go_wp2_with fail
        ((with_reducible refine H1.out.mono ?_); rintro e w2 ⟨rfl, hb2⟩)
        replace y4 := y4.below hb2
        replace hb := bto hb hb2
        clear hb2 x7 H1
        go_wp2
        go_roundw
        case rel => exact ⟨k + 1, by omega, by go_num, HV, y4, hb⟩
        case measure => simp [intOf]; omega
    · have HV : Hid (monV (findM ts code) = monV none) := by show _ = _; rw [HK.out, List.drop_of_length_le (by omega)]; rfl
      have hbA := below_alloc wr (.cells #[.string ⟨#[]⟩, .string ⟨#[]⟩] 48)
      replace y4 := y4.below hbA
      replace hb := bto hb hbA
      have q0 := y4.c0
      have q1 := y4.c1
      have q2 := y4.f0
      have q3 := y4.f1
      clear hbA
      go_wp2
      have hy := y4.set (.string ⟨#[]⟩) (.string ⟨#[]⟩)
      have d0 := hy.c0
      have d1 := hy.c1
      refine bodyPost_ret (v := .tuple #[.agg #[.string ⟨#[]⟩, .string ⟨#[]⟩], .bool false]) (by simp [results, Tryz.results98, go_sem, d0, d1]) rfl ?_
      exact ⟨by rw [HV.out]; rfl, below_set2 hb (Nat.le_refl _) _ _⟩
theorem amt_find (ts : List Mon) (c : List UInt8) : amtL ts c = match findM ts c with | some t => t.amt | none => [] := by
  induction ts with
  | nil => rfl
  | cons x r ih =>
    unfold findM at ih ⊢
    show (if x.cur = c then x.amt else amtL r c) = _
    rw [List.find?_cons]
    by_cases h : x.cur = c
    · rw [if_pos h]
      have : (x.cur == c) = true := by rw [beq_iff_eq]; exact h
      rw [this]
    · rw [if_neg h]
      have : (x.cur == c) = false := by rw [beq_eq_false_iff_ne]; exact h
      rw [this]; exact ih
set_option maxHeartbeats 1000000 in
set_option maxRecDepth 100000 in
theorem mAmount (A : Option Addr) (ts : List Mon) (n c : Nat) (code : List UInt8) (w : World) (h : ML w A ts n) :
    Calls Tryz.prog 37 #[.slice A n c, .string ⟨code.toArray⟩] w fun e w' => e = .returned (.string ⟨(amtL ts code).toArray⟩) ∧ Below w.heap.size w w' := by
  obtain ⟨hn, hn67, hs, h⟩ := h
  subst hn
  have hb := below_alloc w (.cells #[.string ⟨code.toArray⟩] 9)
  have x3 : Blk _ w.heap.size #[.string ⟨code.toArray⟩] := Blk.new w #[.string ⟨code.toArray⟩] 9
  have CF := Lib.hid (mfindM A ts c code w.heap.size _ (by omega) (h.below hb) (x3.c 0) x3.lt)
  have hv := amt_find ts code
  clear x3 h hs
  generalize findM ts code = fo at CF hv
  cases fo with
  | none =>
    have HV : Hid (amtL ts code = []) := hv
    clear hv
    unfold monV at CF
    go_enter Tryz.func37, Tryz.ntmps37
    go_wp2_with fail
    ((with_reducible refine CF.out.mono ?_); rintro e w2 ⟨rfl, hb2⟩)
    clear CF
    go_wp2
    go_ret
    exact ⟨by rw [HV.out]; rfl, bto (bto hb hb2) (below_alloc _ _)⟩
  | some t =>
    have HV : Hid (amtL ts code = t.amt) := hv
    clear hv
    unfold monV at CF
    go_enter Tryz.func37, Tryz.ntmps37
    go_wp2_with fail
    ((with_reducible refine CF.out.mono ?_); rintro e w2 ⟨rfl, hb2⟩)
    clear CF
    go_wp2
    go_ret
    exact ⟨by rw [HV.out]; rfl, bto (bto hb hb2) (below_alloc _ _)⟩
end Go.Proofs.YtgnppdkeiihlfaaGreatDoor
namespace Go.Proofs.YtgnppdkeiihlfaaGreatDoor
open Go.RowKit Go.Shelf Num
attribute [local go_sem] Oper.semAt_some
theorem both_any (A B : Option Addr) (n c m d : Nat) (w : World) :
    Calls Tryz.prog 209 #[.slice A n c, .slice B m d] w fun e w' => e = .returned (.func (.func 255) #[] #[.pointer (some ⟨w.heap.size, 0, none⟩), .pointer (some ⟨w.heap.size + 1, 0, none⟩)]) ∧ w' = (w.alloc (.cells #[.slice A n c] 42)).alloc (.cells #[.slice B m d] 42) := by
  go_enter Tryz.func209, Tryz.ntmps209
  go_wp2_with fail
  go_ret
  exact ⟨rfl, rfl⟩
theorem enter_b1 (args : Array Value) (w : World) : (callFunc 255 args).run Tryz.prog w = .ok (.enter 255 args) w := by kernel_rfl
theorem keep_snoc (zs : List Yl) (y : Yl) : keepL (zs ++ [y]) = keepL zs ++ keepL [y] := by
  induction zs with
  | nil => rfl
  | cons z r ih =>
    show (if _ = 0 then keepL (r ++ [y]) else _ :: keepL (r ++ [y])) = (if _ = 0 then keepL r else _ :: keepL r) ++ _
    rw [ih]
    split <;> simp
structure SmAt (w : World) (R : Loop) (d l : Nat) (zs : List Yl) (W : World) : Prop where
  below : Below w.heap.size w W
  loop : W.heap[l]? = some (.loop R)
  dfr : W.heap[d]? = some (.deferred (some []))
  row : ∃ v, Boxed W w.heap.size 42 v ∧ W.ownsRow w.heap.size 48 2 v (keepL zs).length (rowsM (keepL zs))
theorem own_belowM {w w' : World} {B k sz : Nat} {ty : TypeId} {v : Value} {cs : List Value} (h : w.ownsRow B ty sz v k cs) (hb : Below w.heap.size w w') : w'.ownsRow B ty sz v k cs := by
  refine ⟨h.1, ?_⟩
  rcases h.2 with h2 | ⟨g, cap, cur, e, hB, hg, r⟩
  · exact .inl h2
  · exact .inr ⟨g, cap, cur, e, hB, (hb.block g (Array.getElem?_eq_some_iff.1 hg).1).trans hg, r⟩
theorem below_putM {w W : World} {l : Nat} {ob : Obj} (h : Below w.heap.size w W) (hl : w.heap.size ≤ l) : Below w.heap.size w (W.putObj l ob) :=
  h.trans ⟨rfl, rfl, rfl, by simp, fun k hk => World.putObj_heap_other (by omega)⟩
section
variable {w W W' : World} {R : Loop} {d l : Nat} {zs : List Yl}
theorem SmAt.mono (h : SmAt w R d l zs W) (hb : Below W.heap.size W W') : SmAt w R d l zs W' :=
  ⟨bto h.below hb, (hb.block _ (Array.getElem?_eq_some_iff.1 h.loop).1).trans h.loop, (hb.block _ (Array.getElem?_eq_some_iff.1 h.dfr).1).trans h.dfr, by
    obtain ⟨v, h1, h2⟩ := h.row
    exact ⟨v, (hb.block _ h1.lt).trans h1, own_belowM h2 hb⟩⟩
theorem SmAt.done {R1 R2 : Loop} (hR : R2 = R) (hl : l ≠ d ∧ l ≠ w.heap.size ∧ w.heap.size ≤ l) (h : SmAt w R1 d l zs W) : SmAt w R d l zs (W.putObj l (.loop R2)) := by
  subst hR
  refine ⟨below_putM h.below hl.2.2, World.putObj_heap_same (Array.getElem?_eq_some_iff.1 h.loop).1, (World.putObj_heap_other (by omega)).trans h.dfr, ?_⟩
  obtain ⟨v, h1, h2⟩ := h.row
  exact ⟨v, (World.putObj_heap_other (Ne.symm hl.2.1)).trans h1, ownsRow_putObj h2 _ h.loop rfl⟩
theorem SmAt.grown (h : SmAt w R d l zs W) {b : Nat} {cs : Array Value} {t : TypeId} (hb : W.heap[b]? = some (.cells cs t (0, 0))) (ht : t ≠ 48) (hn : b ≠ w.heap.size) (hw : w.heap.size ≤ b) (hg : W.grownBy W' (some b)) : SmAt w R d l zs W' := by
  have hne : ∀ {k : Nat} {ob : Obj}, W.heap[k]? = some ob → ob.isCells = false → some k ≠ some b := fun hk hc e => by
    injection e with e
    rw [e, hb] at hk
    injection hk with hk
    rw [← hk] at hc; cases hc
  obtain ⟨v, h1, h2⟩ := h.row
  refine ⟨h.below.grown hg h.below.size (fun j ej => by injection ej with ej; omega), (hg.block l (Array.getElem?_eq_some_iff.1 h.loop).1 (hne h.loop rfl)).trans h.loop, (hg.block d (Array.getElem?_eq_some_iff.1 h.dfr).1 (hne h.dfr rfl)).trans h.dfr, v, h1.kept hg (fun e => hn (by injection e with e; exact e.symm)), h2.kept hg ?_⟩
  rcases h2.2 with ⟨rfl, -⟩ | ⟨g, cap, cur, rfl, -, hgb, -⟩
  · exact .inl rfl
  · refine .inr fun e' => ?_
    obtain rfl : g = b := by simpa [Value.ownBlock] using e'
    rw [hgb] at hb
    injection hb with hb
    injection hb with _ hb2
    exact ht hb2.symm
end
def MonEnd (xs : List Mon) (code : Int) (w : World) (e : Ending) (w' : World) : Prop := ∃ B m cp, e = .returned (.tuple #[.slice B m cp, .int .i64 code]) ∧ xs.length = m ∧ m ≤ cp ∧ MonAt w' B xs ∧ Below w.heap.size w w'
def smR (a b : List Mon) : List Mon := if 16 < (smL a b).length then [] else smL a b
def smE (a b : List Mon) : Int := if 16 < (smL a b).length then 4 else 0
theorem mon_nil (w : World) (A : Option Addr) : MonAt w A [] := fun i t ht => by simp at ht
theorem own_mon {w : World} {base k : Nat} {v : Value} {xs : List Mon} (h : w.ownsRow base 48 2 v k (rowsM xs)) (hk : xs.length = k) : ∃ B cp, v = .slice B k cp ∧ k ≤ cp ∧ MonAt w B xs := by
  subst hk
  rcases h.2 with ⟨rfl, h0⟩ | ⟨g, cap, cur, rfl, hB, hg, hcap, _, hsz, htk⟩
  · have : xs = [] := List.eq_nil_of_length_eq_zero h0
    subst this
    exact ⟨none, 0, rfl, Nat.le_refl _, mon_nil w none⟩
  · refine ⟨_, _, rfl, hcap, crow_mon ⟨cur, hg, ?_, ?_⟩⟩
    · rw [rowsM_len]; exact htk
    · rw [rowsM_len, hsz]; exact Nat.mul_le_mul_right 2 hcap
set_option maxHeartbeats 8000000 in
set_option maxRecDepth 100000 in
theorem msum (A B : Option Addr) (xs ys : List Mon) (n c n' c' : Nat) (w : World) (hG : Glob w) (hX : ML w A xs n) (hc : n ≤ c) (hY : ML w B ys n') (hc' : n' ≤ c') :
    Calls Tryz.prog 143 #[.slice A n c, .slice B n' c'] w (MonEnd (smR xs ys) (smE xs ys) w) := by
  obtain ⟨i0, hi, hz0, hz1, hz2⟩ := info_parts info_mon
  have hn63 : n ≤ 1000000 ∧ n' ≤ 1000000 := ⟨Nat.le_trans hX.sm (by decide), Nat.le_trans hY.sm (by decide)⟩
  have hNs : xs.length + ys.length ≤ 2000 := by have := hX.len; have := hY.len; have := hX.sm; have := hY.sm; omega
  have HX := Lib.hid hX
  have HYs := Lib.hid hY
  have HNs := Lib.hid hNs
  clear hX hY hNs
  refine (callsIn_wide (n := 5)).1 ?_
  refine callsIn_of_wp_marks Tryz.func143 rfl trivial ?_ rfl
  simp only [Tryz.ntmps143, List.size_toArray, List.length_cons, List.length_nil, Nat.reduceAdd, Nat.reduceSub, Array.replicate_succ, Array.replicate_zero, List.push_toArray, List.append_toArray, List.nil_append, List.cons_append]
  gi_wp2_with (refine ⟨trivial, ?_⟩; gi_at_call 209; refine (callsIn_wide.2 (both_any A B n c n' c' _)).mono ?_; rintro e w1 ⟨rfl, rfl⟩)
  refine range_goes (gf := 255) (lb := #[.pointer (some ⟨w.heap.size + 1, 0, none⟩), .pointer (some ⟨w.heap.size + 1 + 1, 0, none⟩)]) rfl enter_b1 ?_
  intro fn R hR
  obtain ⟨Wo, hWo⟩ : ∃ Wo, Wo = w.alloc (.cells #[.slice none 0 0] 42) := ⟨_, rfl⟩
  obtain ⟨W0, hW0⟩ : ∃ W0, W0 = (Wo.alloc (.cells #[.slice A n c] 42)).alloc (.cells #[.slice B n' c'] 42) := ⟨_, rfl⟩
  have hso : Wo.heap.size = w.heap.size + 1 := by rw [hWo]; simp only [World.size_alloc]
  have hsz : W0.heap.size = w.heap.size + 3 := by rw [hW0, World.size_alloc, World.size_alloc, hso]
  have hb0 : Below w.heap.size w Wo := by rw [hWo]; exact below_alloc _ _
  have hbo : Below Wo.heap.size Wo W0 := by rw [hW0]; exact bto (below_alloc _ _) (below_alloc _ _)
  have x6 : Boxed W0 w.heap.size 42 (.slice none 0 0) := bx_below (by rw [hWo]; exact Boxed.new _ _ _) hbo
  have xa : Boxed W0 (w.heap.size + 1) 42 (.slice A n c) := by
    rw [hW0, ← hso]
    exact bx_below (Boxed.new Wo _ _) (below_alloc _ _)
  have xb : Boxed W0 (w.heap.size + 1 + 1) 42 (.slice B n' c') := by
    rw [hW0, ← hso]
    have := Boxed.new (Wo.alloc (.cells #[.slice A n c] 42)) 42 (.slice B n' c')
    rwa [World.size_alloc] at this
  replace hb0 := bto hb0 hbo
  rw [← hWo, ← hW0] at hR ⊢
  clear hW0 hWo hso hbo
  obtain ⟨W1, hW1⟩ : ∃ W1, W1 = (W0.alloc (.deferred (some []))).alloc (.loop R) := ⟨_, rfl⟩
  have hbB : Below W0.heap.size W0 W1 := by rw [hW1]; exact bto (below_alloc _ _) (below_alloc _ _)
  have hD : W1.heap[W0.heap.size]? = some (.deferred (some [])) := by rw [hW1]; exact (Below.heap_alloc _ _ _ (by simp)).trans (World.alloc_heap_new _ _)
  have hL : W1.heap[W0.heap.size + 1]? = some (.loop R) := by
    rw [hW1]
    have := World.alloc_heap_new (W0.alloc (.deferred (some []))) (.loop R)
    rwa [World.size_alloc] at this
  rw [← hW1]
  obtain ⟨l, hl⟩ : ∃ l, l = W0.heap.size + 1 := ⟨_, rfl⟩
  obtain ⟨d, hd⟩ : ∃ d, d = W0.heap.size := ⟨_, rfl⟩
  rw [← hl] at hL ⊢
  rw [← hd] at hD hR ⊢
  have hS0 : SmAt w R d l [] W1 := ⟨bto hb0 hbB, hL, hD, ⟨_, bx_below x6 hbB, World.ownsRow_nil _ _ _ 2⟩⟩
  replace xa := bx_below xa hbB
  replace xb := bx_below xb hbB
  obtain ⟨ab, hab⟩ : ∃ ab, ab = w.heap.size + 1 := ⟨_, rfl⟩
  obtain ⟨bb, hbb⟩ : ∃ bb, bb = w.heap.size + 1 + 1 := ⟨_, rfl⟩
  rw [← hbb] at xb ⊢
  rw [← hab] at xa ⊢
  have n1 : l ≠ d ∧ l ≠ w.heap.size ∧ w.heap.size ≤ l := by omega
  have n3 : w.heap.size ≤ d ∧ d ≠ w.heap.size := by omega
  have n4 : ab ≠ bb ∧ ab ≠ w.heap.size ∧ bb ≠ w.heap.size ∧ w.heap.size ≤ ab ∧ w.heap.size ≤ bb ∧ ab ≠ l ∧ bb ≠ l := by omega
  clear hW1 hbB hD hL x6 hb0 hsz hl hd hab hbb
  have hY : ∀ zs (y : Yl) W u v, SmAt w R d l zs W → y.1.length ≤ 1000 → y.2.1.length ≤ 1000 → y.2.2.length ≤ 1000 → zs.length < 2000 → Boxed W ab 42 u → Boxed W bb 42 v →
      YieldAt Fence.wide (5 - 1 - 1) Tryz.prog l #[.string ⟨y.1.toArray⟩, .agg #[.string ⟨y.2.1.toArray⟩, .string ⟨y.2.2.toArray⟩]] W fun e W' => e = .returned (.bool true) ∧ SmAt w R d l (zs ++ [y]) W' ∧ Boxed W' ab 42 u ∧ Boxed W' bb 42 v := by
    intro zs y W u v hS l1 l2 l3 hlen hA hB
    have hy := run_yield (P := Tryz.prog) (args := #[.string ⟨y.1.toArray⟩, .agg #[.string ⟨y.2.1.toArray⟩, .string ⟨y.2.2.toArray⟩]]) hS.loop (by rw [hR]; rfl)
    refine ⟨R.fn, _, R.assign, R.body, hy, roundIn_of_wpIn trivial ?_⟩
    have hlW := (Array.getElem?_eq_some_iff.1 hS.loop).1
    have hbA := below_alloc W (.cells #[.string ⟨y.2.1.toArray⟩, .string ⟨y.2.2.toArray⟩] 201)
    have hSa := hS.mono hbA
    have hbr := run_beginRound (P := Tryz.prog) hSa.loop (by rw [hR])
    have hS1 : SmAt w { R with state := .busy } d l zs ((W.alloc (.cells #[.string ⟨y.2.1.toArray⟩, .string ⟨y.2.2.toArray⟩] 201)).putObj l (.loop { R with state := .busy })) := SmAt.done rfl n1 hSa
    have x8 : Blk ((W.alloc (.cells #[.string ⟨y.2.1.toArray⟩, .string ⟨y.2.2.toArray⟩] 201)).putObj l (.loop { R with state := .busy })) W.heap.size #[.string ⟨y.2.1.toArray⟩, .string ⟨y.2.2.toArray⟩] := by
      obtain ⟨t, h⟩ := Blk.new W #[.string ⟨y.2.1.toArray⟩, .string ⟨y.2.2.toArray⟩] 201
      exact ⟨t, (World.putObj_heap_other (by omega)).trans h⟩
    have hA1 : Boxed ((W.alloc (.cells #[.string ⟨y.2.1.toArray⟩, .string ⟨y.2.2.toArray⟩] 201)).putObj l (.loop { R with state := .busy })) ab 42 u := (World.putObj_heap_other n4.2.2.2.2.2.1).trans (bx_below hA hbA)
    have hB1 : Boxed ((W.alloc (.cells #[.string ⟨y.2.1.toArray⟩, .string ⟨y.2.2.toArray⟩] 201)).putObj l (.loop { R with state := .busy })) bb 42 v := (World.putObj_heap_other n4.2.2.2.2.2.2).trans (bx_below hB hbA)
    obtain ⟨Wc, hWc⟩ : ∃ Wc, Wc = (W.alloc (.cells #[.string ⟨y.2.1.toArray⟩, .string ⟨y.2.2.toArray⟩] 201)).putObj l (.loop { R with state := .busy }) := ⟨_, rfl⟩
    rw [← hWc] at hbr hS1 x8 hA1 hB1
    have hRe : ({ { R with state := .busy } with state := .ready, pending := none } : Loop) = R := by rw [hR]
    obtain ⟨R1, hR1⟩ : ∃ R1, R1 = { R with state := .busy } := ⟨_, rfl⟩
    rw [← hR1] at hS1 hRe
    have hbc := hS1.below
    have p0 : Wc.cell? ⟨W.heap.size, 0, none⟩ = some (.string ⟨y.2.1.toArray⟩) := x8.c 0
    have p1 : Wc.cell? ⟨W.heap.size, 1, none⟩ = some (.string ⟨y.2.2.toArray⟩) := x8.c 1
    have HBr := Lib.hid hbr
    have HRe := Lib.hid hRe
    have HS1 := Lib.hid hS1
    have HA1 := Lib.hid hA1
    have HB1 := Lib.hid hB1
    obtain ⟨Z, hZ⟩ : ∃ Z, Z = val y.2.1 + val y.2.2 := ⟨_, rfl⟩
    have C1 := Lib.hid (riAdd (l := y.2.1) (l' := y.2.2) (by omega) (by omega) hZ.symm)
    have HZ := Lib.hid hZ
    have HHR := Lib.hid hR
    clear hWc hbr hy hS hSa hlW hS1 hRe hR1 hS0 hA hB hA1 hB1 hbA x8 hZ xa xb
    rw [hR]
    gi_wp2
    refine ⟨_, HBr.out, ?_⟩
    gi_wp2_with fail
    refine ⟨trivial, ?_⟩
    refine (CallsIn.inRound l (callsIn_wide.2 (C1.out.of hG hbc))).mono ?_
    rintro e w4 ⟨rfl, hb4⟩
    have HS2 := Lib.hid (HS1.out.mono hb4)
    have HA2 := Lib.hid (bx_below HA1.out hb4)
    have HB2 := Lib.hid (bx_below HB1.out hb4)
    replace hbc := bto hbc hb4
    clear hb4 p0 p1 C1 HS1 HA1 HB1 HBr hR
    by_cases hz : Z = 0
    · have e3 : (canon Z == []) = true := by rw [hz]; rfl
      have e4 : (canon Z).isEmpty = true := by rw [hz]; rfl
      have HK : Hid (keepL (zs ++ [y]) = keepL zs) := by
        show _ = _
        rw [keep_snoc]
        show _ ++ (if val y.2.1 + val y.2.2 = 0 then keepL [] else _) = _
        rw [← HZ.out, if_pos hz]; exact List.append_nil _
      have HGO : Hid (SmAt w R1 d l (zs ++ [y]) w4) := by
        obtain ⟨g1, g2, g3, v, g4, g5⟩ := HS2.out
        exact ⟨g1, g2, g3, v, g4, by rw [HK.out]; exact g5⟩
      clear hz
      gi_wp2
      exact ⟨_, _, run_endRound (P := Tryz.prog) none HGO.out.loop, rfl, SmAt.done (HRe.out.trans HHR.out) n1 HGO.out, (World.putObj_heap_other n4.2.2.2.2.2.1).trans HA2.out, (World.putObj_heap_other n4.2.2.2.2.2.2).trans HB2.out⟩
    have e3 : (canon Z == []) = false := by rw [beq_eq_false_iff_ne]; exact fun h => hz ((canon_eq_nil _).1 h)
    have e4 : (canon Z).isEmpty = false := by rw [List.isEmpty_eq_false_iff]; exact fun h => hz ((canon_eq_nil _).1 h)
    have HK : Hid (keepL (zs ++ [y]) = keepL zs ++ [⟨y.1, canon Z⟩]) := by
      show _ = _
      rw [keep_snoc]
      show _ ++ (if val y.2.1 + val y.2.2 = 0 then keepL [] else _) = _
      rw [← HZ.out, if_neg hz]; rfl
    have hkl := keep_len zs
    obtain ⟨v0, hv, hrow⟩ := HS2.out.row
    have hc := hv.cell
    generalize canon Z = C at *
    clear hz HZ
    gi_wp2_with (gi_at_builtin; refine wpListIn_append_own _ rfl _ _ 42 rfl w.heap.size 48 i0 (.agg #[.string ⟨#[]⟩, .string ⟨#[]⟩]) 2 32 Tryz.underlying42 hi hz0 hz1 hz2 rfl (by decide) _ _ _ rfl (own_belowM hrow (below_alloc _ _)) ⟨w4.heap.size, 0, none⟩ 1 1 [.string ⟨y.1.toArray⟩, .string ⟨C.toArray⟩] rfl rfl ?c1 ?c2 ?c3 ?c4 ?c5 ?_)
    case c1 =>
      intro j u hu
      match j with
      | 0 => simp at hu; subst hu; rw [Lib.add_plain]; simp [go_sem]
      | 1 => simp at hu; subst hu; rw [Lib.add_plain]; simp [go_sem]
      | j + 2 => simp at hu
    case c2 =>
      intro u hu
      simp at hu
      rcases hu with rfl | rfl <;> rfl
    case c3 => unfold maxLen; omega
    case c4 => omega
    case c5 => have := hbc.size; simp; omega
    intro v' w5 hown' hgrow _
    obtain ⟨g', cap', rfl⟩ := ownsRow_succ hown'
    obtain ⟨hv1, hv2, hr2, hk2, hb2⟩ := hv.appended (by decide) hrow hbc.size (Nat.le_refl _) hown' hgrow
    have hc1 := hv1.cell
    have hf1 := hv1.frozen
    have hA3 := bx_far (i := 0) (u := .slice (some ⟨g', 0, none⟩) ((keepL zs).length + 1) cap') ((Boxed.alloc HA2.out _).kept hgrow (HA2.out.not_row (by decide) hrow)) n4.2.1
    have hB3 := bx_far (i := 0) (u := .slice (some ⟨g', 0, none⟩) ((keepL zs).length + 1) cap') ((Boxed.alloc HB2.out _).kept hgrow (HB2.out.not_row (by decide) hrow)) n4.2.2.1
    have HA3 := Lib.hid hA3
    have HB3 := Lib.hid hB3
    have HGO : Hid (SmAt w R1 d l (zs ++ [y]) (w5.setCell ⟨w.heap.size, 0, none⟩ (.slice (some ⟨g', 0, none⟩) ((keepL zs).length + 1) cap'))) := by
      refine ⟨hbc.trans hb2, hk2.same _ _ HS2.out.loop rfl, hk2.same _ _ HS2.out.dfr rfl, _, hv2, ?_⟩
      have e1 : (keepL (zs ++ [y])).length = (keepL zs).length + 1 := by rw [HK.out, List.length_append]; rfl
      have e2 : rowsM (keepL (zs ++ [y])) = rowsM (keepL zs) ++ [.string ⟨y.1.toArray⟩, .string ⟨C.toArray⟩] := by rw [HK.out, rowsM_app]; rfl
      rw [e1, e2]; exact hr2
    clear hown' hgrow hv1 hv2 hr2 hk2 hb2 hv hrow hc HS2 HA2 HB2 hA3 hB3 HK
    gi_wp2
    exact ⟨_, _, run_endRound (P := Tryz.prog) none HGO.out.loop, rfl, SmAt.done (HRe.out.trans HHR.out) n1 HGO.out, (World.putObj_heap_other n4.2.2.2.2.2.1).trans HA3.out, (World.putObj_heap_other n4.2.2.2.2.2.2).trans HB3.out⟩
  have key := both1_in (5 - 1) l ab bb w.heap.size xs ys 2000 w (SmAt w R d l) (fun zs W h => h.below) (fun zs W W' h hb => h.mono hb) (fun zs W W' b cs t h hb ht hn hw hg => h.grown hb ht hn hw hg) (fun zs W h => by obtain ⟨v, h1, -⟩ := h.row; exact h1.lt) n4.2.1 n4.2.2.1 n4.2.2.2.1 n4.2.2.2.2.1 hY n4.1 HNs.out A B n c n' c' ⟨HX.out.len, HX.out.str, HX.out.mem⟩ ⟨HYs.out.len, HYs.out.str, HYs.out.mem⟩ hc hc' hn63 W1 hS0 xa xb
  refine key.mono ?_
  rintro e W2 ⟨hv, hS2⟩
  refine ⟨hv, hS2.loop, ?_⟩
  have hS3 : SmAt w { R with state := .exhausted } d l (bothL xs ys) (W2.putObj l (.loop { R with state := .exhausted })) := SmAt.done rfl n1 hS2
  obtain ⟨W3, hW3⟩ : ∃ W3, W3 = W2.putObj l (.loop { R with state := .exhausted }) := ⟨_, rfl⟩
  rw [← hW3] at hS3 ⊢
  obtain ⟨v, hv, hrow⟩ := hS3.row
  have q0 := hv.cell
  have hD5 := hS3.dfr
  have hb5 := hS3.below
  have hrow2 : W3.ownsRow w.heap.size 48 2 v (smL xs ys).length (rowsM (smL xs ys)) := hrow
  obtain ⟨Bv, cv, rfl, hcv, -⟩ := own_mon hrow2 rfl
  have HR := Lib.hid (ownsRow_putObj hrow2 (.deferred none) hD5 rfl)
  have hsl : (smL xs ys).length ≤ 2000 := Nat.le_trans (smL_len xs ys) HNs.out
  clear hW3 hS3 key hY hS2 hS0 hrow hrow2 HX HYs xa xb
  have HVV := Lib.hid (show (16 < (smL xs ys).length → smR xs ys = [] ∧ smE xs ys = 4) ∧ (¬ 16 < (smL xs ys).length → smR xs ys = smL xs ys ∧ smE xs ys = 0) from ⟨fun g => ⟨if_pos g, if_pos g⟩, fun g => ⟨if_neg g, if_neg g⟩⟩)
  obtain ⟨M, hM⟩ : ∃ M, M = (smL xs ys).length := ⟨_, rfl⟩
  rw [← hM] at HVV hsl HR q0 hcv
  have HMM := Lib.hid hM.symm
  clear hM
  by_cases g16 : 16 < M
  · have e1 : decide (16 < M) = true := decide_eq_true g16
    have e2 : decide ((16 : Int) < (M : Int)) = true := decide_eq_true (by omega)
    have HV : Hid (smR xs ys = [] ∧ smE xs ys = 4) := HVV.out.1 g16
    clear g16
    gi_wp2
    refine ⟨by simp, .inl ⟨_, _, rfl, run_takeDeferred hD5, ?_⟩⟩
    refine ⟨_, results_tmp2 rfl _ _ _, none, 0, 0, ?_, ?_, Nat.le_refl _, ?_, below_putM hb5 n3.1⟩
    · rw [HV.out.2]; rfl
    · rw [HV.out.1]; rfl
    · rw [HV.out.1]; exact mon_nil _ _
  · have e1 : decide (16 < M) = false := decide_eq_false g16
    have e2 : decide ((16 : Int) < (M : Int)) = false := decide_eq_false (by omega)
    have HV : Hid (smR xs ys = smL xs ys ∧ smE xs ys = 0) := HVV.out.2 g16
    obtain ⟨Bw, cw, hBw, hcw, hmw⟩ := own_mon HR.out HMM.out
    injection hBw with b1 b2 b3
    subst b1 b3
    have HM := Lib.hid hmw
    clear g16 hmw HR
    gi_wp2
    refine ⟨by simp, .inl ⟨_, _, rfl, run_takeDeferred hD5, ?_⟩⟩
    refine ⟨_, results_tmp2 rfl _ _ _, Bv, _, cv, ?_, ?_, hcw, ?_, below_putM hb5 n3.1⟩
    · rw [HV.out.2]; rfl
    · rw [HV.out.1]; exact HMM.out
    · rw [HV.out.1]; exact HM.out
end Go.Proofs.YtgnppdkeiihlfaaGreatDoor
namespace Go.Proofs.YtgnppdkeiihlfaaGreatDoor
open Go.RowKit Num
def putV (xs : List Mon) (m : Mon) : List Mon × Int := if ¬ bagE xs = 0 then ([], 1) else if ¬ codeB m.cur = true then ([], 23) else if ¬ m.amt = canon (val m.amt) then ([], 1) else (smR xs [m], smE xs [m])
def negV (xs : List Mon) : List Mon × Int := if ¬ bagE xs = 0 then ([], 1) else (xs.map negM, 0)
theorem mCheckB {w : World} {A : Option Addr} {xs : List Mon} {n : Nat} (hG : Glob w) (h : ML w A xs n) (c : Nat) : RetB w 79 #[.slice A n c] (.int .i64 (bagE xs)) := fun w' hb => mCheck A xs n c w' (hG.below hb) (h.below hb)
theorem monEnd_no {V : List Mon × Int} {z : Int} {w w' : World} (h : V = ([], z)) (hb : Below w.heap.size w w') : MonEnd V.1 V.2 w (.returned (.tuple #[.slice none 0 0, .int .i64 z])) w' :=
  ⟨none, 0, 0, by rw [h], by rw [h]; rfl, Nat.le_refl _, by rw [h]; exact mon_nil _ _, hb⟩
theorem ml_one {w : World} {b : Nat} {m : Mon} {t : TypeId} (h : w.heap[b]? = some (.cells #[.string ⟨m.cur.toArray⟩, .string ⟨m.amt.toArray⟩] t (0, 0))) (h1 : m.cur.length ≤ 1000) (h2 : m.amt.length ≤ 1000) : ML w (some ⟨b, 0, none⟩) [m] 1 := by
  refine ⟨rfl, by decide, fun t ht => ?_, fun i t ht => ?_⟩
  · rw [List.mem_singleton.1 ht]; exact ⟨h1, h2⟩
  · cases i with
    | zero =>
      have : m = t := by simpa using ht
      subst this
      exact ⟨b, 0, rfl, (Array.getElem?_eq_some_iff.1 h).1, by rw [blk_cell h]; rfl, by rw [blk_cell h]; rfl⟩
    | succ i => simp at ht
set_option maxHeartbeats 4000000 in
set_option maxRecDepth 100000 in
theorem mPut (A : Option Addr) (xs : List Mon) (n c : Nat) (m : Mon) (w : World) (hG : Glob w) (hX : ML w A xs n) (hc : n ≤ c) (h1 : m.cur.length ≤ 1000) (h2 : m.amt.length ≤ 1000) :
    Calls Tryz.prog 77 #[.slice A n c, (.agg #[.string ⟨m.cur.toArray⟩, .string ⟨m.amt.toArray⟩])] w (MonEnd (putV xs m).1 (putV xs m).2 w) := by
  have CB := Lib.hid (mCheckB hG hX c)
  have HX := Lib.hid hX
  have hb := below_alloc w (.cells #[.string ⟨m.cur.toArray⟩, .string ⟨m.amt.toArray⟩] 48)
  have x3 := FBox.new w (.string ⟨m.cur.toArray⟩) (.string ⟨m.amt.toArray⟩) 48
  clear hX
  by_cases g0 : bagE xs = 0
  rotate_left
  · have HV : Hid (putV xs m = ([], 1)) := if_pos g0
    have e1 : (bagE xs != 0) = true := bneq' (intbne g0)
    generalize bagE xs = E at *
    clear g0
    go_enter Tryz.func77, Tryz.ntmps77
    go_wp2_with fail
    ((with_reducible refine (CB.out.of hG hb).mono ?_); rintro e w2 ⟨rfl, hb2⟩)
    replace x3 := x3.below hb2
    replace hb := bto hb hb2
    clear hb2
    clear CB x3
    go_wp2
    go_ret2
    exact monEnd_no HV.out hb
  have HV0 : Hid (putV xs m = if ¬ codeB m.cur = true then ([], 23) else if ¬ m.amt = canon (val m.amt) then ([], 1) else (smR xs [m], smE xs [m])) := if_neg (fun h => h g0)
  rw [g0] at CB
  clear g0
  have CD := Lib.hid (mCode (l := m.cur) (by omega))
  by_cases gd : codeB m.cur = true
  rotate_left
  · have HV : Hid (putV xs m = ([], 23)) := HV0.out.trans (if_pos gd)
    have e1 := not_true_b gd
    rw [e1] at CD
    clear gd e1 HV0
    go_enter Tryz.func77, Tryz.ntmps77
    go_wp2_with fail
    ((with_reducible refine (CB.out.of hG hb).mono ?_); rintro e w2 ⟨rfl, hb2⟩)
    replace x3 := x3.below hb2
    replace hb := bto hb hb2
    clear hb2
    have q0 := x3.c0
    clear CB
    go_wp2_with fail
    ((with_reducible refine (CD.out.of hG hb).mono ?_); rintro e w3 ⟨rfl, hb3⟩)
    replace x3 := x3.below hb3
    replace hb := bto hb hb3
    clear hb3
    clear CD q0 x3
    go_wp2
    go_ret2
    exact monEnd_no HV.out hb
  have HV1 : Hid (putV xs m = if ¬ m.amt = canon (val m.amt) then ([], 1) else (smR xs [m], smE xs [m])) := HV0.out.trans (if_neg (fun h => h gd))
  rw [gd] at CD
  clear gd HV0
  by_cases gv : m.amt = canon (val m.amt)
  rotate_left
  · have HV : Hid (putV xs m = ([], 1)) := HV1.out.trans (if_pos gv)
    have CC := Lib.hid (riCheck (l := m.amt) (c := 1) (by omega) (if_neg gv))
    clear gv HV1
    go_enter Tryz.func77, Tryz.ntmps77
    go_wp2_with fail
    ((with_reducible refine (CB.out.of hG hb).mono ?_); rintro e w2 ⟨rfl, hb2⟩)
    replace x3 := x3.below hb2
    replace hb := bto hb hb2
    clear hb2
    have q0 := x3.c0
    clear CB
    go_wp2_with fail
    ((with_reducible refine (CD.out.of hG hb).mono ?_); rintro e w3 ⟨rfl, hb3⟩)
    replace x3 := x3.below hb3
    replace hb := bto hb hb3
    clear hb3
    clear CD q0
    have q1 := x3.c1
    go_wp2_with fail
    ((with_reducible refine (CC.out.of hG hb).mono ?_); rintro e w4 ⟨rfl, hb4⟩)
    replace x3 := x3.below hb4
    replace hb := bto hb hb4
    clear hb4
    clear CC q1 x3
    go_wp2
    go_ret2
    exact monEnd_no HV.out hb
  have HV : Hid (putV xs m = (smR xs [m], smE xs [m])) := HV1.out.trans (if_neg (fun h => h gv))
  have CC := Lib.hid (riCheck (l := m.amt) (c := 0) (by omega) (if_pos gv))
  clear gv HV1
  go_enter Tryz.func77, Tryz.ntmps77
  go_wp2_with fail
  ((with_reducible refine (CB.out.of hG hb).mono ?_); rintro e w2 ⟨rfl, hb2⟩)
  replace x3 := x3.below hb2
  replace hb := bto hb hb2
  clear hb2
  have q0 := x3.c0
  clear CB
  go_wp2_with fail
  ((with_reducible refine (CD.out.of hG hb).mono ?_); rintro e w3 ⟨rfl, hb3⟩)
  replace x3 := x3.below hb3
  replace hb := bto hb hb3
  clear hb3
  clear CD q0
  have q1 := x3.c1
  go_wp2_with fail
  ((with_reducible refine (CC.out.of hG hb).mono ?_); rintro e w4 ⟨rfl, hb4⟩)
  replace x3 := x3.below hb4
  replace hb := bto hb hb4
  clear hb4
  clear CC q1
  have q0 := x3.c0
  have q1 := x3.c1
  have hbA := below_alloc w4 (.cells #[.string ⟨m.cur.toArray⟩, .string ⟨m.amt.toArray⟩] 48)
  have CS := Lib.hid (msum A (some ⟨w4.heap.size, 0, none⟩) xs [m] n c 1 1 (w4.alloc (.cells #[.string ⟨m.cur.toArray⟩, .string ⟨m.amt.toArray⟩] 48)) (hG.below (bto hb hbA)) (HX.out.below (bto hb hbA)) hc (ml_one (heap_alloc_new w4 _) h1 h2) (Nat.le_refl _))
  replace hb := bto hb hbA
  clear hbA
  go_wp2_with fail
  refine CS.out.mono ?_
  rintro e w5 ⟨B, k, cp, rfl, k1, k2, k3, hb5⟩
  have HK1 := Lib.hid k1
  have HK3 := Lib.hid k3
  clear CS q0 q1 x3 k1 k3
  go_wp2
  go_ret2
  exact ⟨B, k, cp, by rw [HV.out]; rfl, by rw [HV.out]; exact HK1.out, k2, by rw [HV.out]; exact HK3.out, bto hb hb5⟩
theorem rowsM_set {xs : List Mon} {i : Nat} {x : Mon} (a : List UInt8) (h : xs[i]? = some x) : (rowsM xs).set (i * 2 + 1) (.string ⟨a.toArray⟩) = rowsM (xs.set i ⟨x.cur, a⟩) := by
  induction xs generalizing i with
  | nil => simp at h
  | cons y r ih =>
    cases i with
    | zero =>
      have : y = x := by simpa using h
      subst this; rfl
    | succ i =>
      have h2 := ih (i := i) (by simpa using h)
      rw [rowsM_cons, show (i + 1) * 2 + 1 = (i * 2 + 1) + 1 + 1 by omega]
      simp only [List.set_cons_succ]
      rw [h2]; rfl
def mixM (f : Mon → Mon) (ts : List Mon) (k : Nat) : List Mon := (ts.take k).map f ++ ts.drop k
theorem mixM_all {f : Mon → Mon} {ts : List Mon} {k : Nat} (h : ts.length ≤ k) : mixM f ts k = ts.map f := by
  unfold mixM; rw [List.take_of_length_le h, List.drop_of_length_le h, List.append_nil]
theorem mixM_at {f : Mon → Mon} {ts : List Mon} {k : Nat} {t : Mon} (h : ts[k]? = some t) : (mixM f ts k)[k]? = some t := by
  have hk := (List.getElem?_eq_some_iff.1 h).1
  unfold mixM
  rw [List.getElem?_append_right (by rw [List.length_map, List.length_take]; omega), List.length_map, List.length_take, Nat.min_eq_left (by omega), Nat.sub_self, List.getElem?_drop]
  exact h
theorem mixM_set {f : Mon → Mon} {ts : List Mon} {k : Nat} {t : Mon} (h : ts[k]? = some t) : (mixM f ts k).set k (f t) = mixM f ts (k + 1) := by
  obtain ⟨hk, rfl⟩ := List.getElem?_eq_some_iff.1 h
  unfold mixM
  have hl : ((ts.take k).map f).length = k := by rw [List.length_map, List.length_take]; omega
  rw [List.set_append_right _ _ (by rw [hl]; exact Nat.le_refl _), hl, Nat.sub_self, List.drop_eq_getElem_cons hk, List.set_cons_zero, List.take_succ_eq_append_getElem hk, List.map_append, List.append_assoc]
  rfl
set_option maxHeartbeats 4000000 in
set_option maxRecDepth 100000 in
theorem mNeg (A : Option Addr) (xs : List Mon) (n c : Nat) (w : World) (hG : Glob w) (hX : ML w A xs n) :
    Calls Tryz.prog 25 #[.slice A n c] w (MonEnd (negV xs).1 (negV xs).2 w) := by
  have CB := Lib.hid (mCheckB hG hX c)
  have HX := Lib.hid hX
  have hb := Below.refl w.heap.size w
  have hn1 := hX.sm
  clear hX
  by_cases g0 : bagE xs = 0
  rotate_left
  · have HV : Hid (negV xs = ([], 1)) := if_pos g0
    have e1 : (bagE xs != 0) = true := bneq' (intbne g0)
    generalize bagE xs = E at *
    clear g0
    go_enter Tryz.func25, Tryz.ntmps25
    go_wp2_with fail
    ((with_reducible refine (CB.out.of hG hb).mono ?_); rintro e w2 ⟨rfl, hb2⟩)
    replace hb := bto hb hb2
    clear hb2
    clear CB
    go_wp2
    go_ret2
    exact monEnd_no HV.out hb
  have HV : Hid (negV xs = (xs.map negM, 0)) := if_neg (fun h => h g0)
  rw [g0] at CB
  clear g0
  by_cases h0 : n = 0
  · subst h0
    have hx0 : xs = [] := List.eq_nil_of_length_eq_zero HX.out.len
    have HV2 : Hid (negV xs = ([], 0)) := by show _ = _; rw [HV.out, hx0]; rfl
    clear hx0 HV
    go_enter Tryz.func25, Tryz.ntmps25
    go_wp2_with fail
    ((with_reducible refine (CB.out.of hG hb).mono ?_); rintro e w2 ⟨rfl, hb2⟩)
    replace hb := bto hb hb2
    clear hb2
    have CK := Lib.hid (cloneM0 A c w2)
    clear CB
    go_wp2_with fail
    refine CK.out.mono ?_
    rintro e w3 ⟨B, cp, rfl, hb3⟩
    replace hb := bto hb hb3
    clear CK hb3
    go_wp2_with fail
    go_loopw [13] (fun iv wr => iv = .int .i64 0 ∧ wr = w3) (fun _ _ => 0)
    case atStart => exact ⟨rfl, rfl⟩
    case round =>
      obtain ⟨rfl, rfl⟩ := hrel
      go_wp2
      go_ret2
      exact ⟨B, 0, cp, by rw [HV2.out]; rfl, by rw [HV2.out]; rfl, Nat.zero_le _, by rw [HV2.out]; exact mon_nil _ _, hb⟩
  have CKn := Lib.hid (fun (w' : World) (hb : Below w.heap.size w w') => cloneM A xs n c w' HX.out.len (by omega) (by omega) (HX.out.below hb).mem)
  go_enter Tryz.func25, Tryz.ntmps25
  go_wp2_with fail
  ((with_reducible refine (CB.out.of hG hb).mono ?_); rintro e w2 ⟨rfl, hb2⟩)
  replace hb := bto hb hb2
  clear hb2
  clear CB
  go_wp2_with fail
  refine (CKn.out _ hb).mono ?_
  rintro e w3 ⟨g, cp, rfl, hcp, -, hwg, -, hrow, hb3⟩
  have hsz := hb.size
  have hgw : w.heap.size ≤ g := Nat.le_trans hsz hwg
  replace hb := bto hb hb3
  clear CKn hb3 hwg hsz
  go_wp2_with fail
  go_loopw [5, 13] (fun _ iv wr => ∃ k : Nat, k ≤ n ∧ iv = .int .i64 (k : Int) ∧ CRow wr g 48 (rowsM (mixM negM xs k)) ∧ Below w.heap.size w wr) (fun _ iv _ => n - (intOf iv).toNat)
  case atStart => exact ⟨0, Nat.zero_le _, rfl, hrow, hb⟩
  case round =>
    clear hrow hb
    obtain ⟨k, hk, rfl, hrow, hb⟩ := hrel
    by_cases hlt : k < n
    · obtain ⟨t, ht⟩ : ∃ t, xs[k]? = some t := ⟨_, List.getElem?_eq_getElem (by rw [HX.out.len]; omega)⟩
      have hs := (HX.out.str t (List.mem_of_getElem? ht)).2
      have CN := Lib.hid (riNeg (l := t.amt) (by omega) rfl)
      have hmx := mixM_at (f := negM) ht
      obtain ⟨-, hr1⟩ := rowsM_at hmx
      have q0 := hrow.cell hr1
      have HS2 := Lib.hid (show (rowsM (mixM negM xs k)).set (k * 2 + 1) (.string ⟨(canon (- val t.amt)).toArray⟩) = rowsM (mixM negM xs (k + 1)) from by rw [rowsM_set _ hmx]; exact congrArg rowsM (mixM_set ht))
      have HR := Lib.hid hrow
      generalize canon (- val t.amt) = C at *
      clear ht hmx hr1 hrow
      go_wp2_with fail
      ((with_reducible refine (CN.out.of hG hb).mono ?_); rintro e w4 ⟨rfl, hb4⟩)
      have hrow := HR.out.below hb4
      replace hb := bto hb hb4
      have HR2 := hrow.set (k * 2 + 1) (.string ⟨C.toArray⟩)
      rw [HS2.out] at HR2
      have q1 := hrow.free (k * 2 + 1)
      have q2 := hb4.cell (p := ⟨g, k * 2 + 1, none⟩) HR.out.lt
      rw [q0] at q2
      have HR3 := Lib.hid HR2
      have hb6 := Lib.hid (hb.setCell (p := ⟨g, k * 2 + 1, none⟩) hgw (.string ⟨C.toArray⟩))
      clear HR2 hrow HR hb4 CN q0 hb HS2
      go_wp2
      go_roundw
      case rel => exact ⟨k + 1, by omega, by go_num, HR3.out, hb6.out⟩
      case measure => simp [intOf]; omega
    · have HM := Lib.hid (mixM_all (f := negM) (ts := xs) (k := k) (by rw [HX.out.len]; omega))
      rw [HM.out] at hrow
      have HR := Lib.hid (crow_mon hrow)
      clear hrow
      go_wp2
      go_ret2
      exact ⟨_, n, cp, by rw [HV.out]; rfl, by rw [HV.out]; exact (List.length_map _).trans HX.out.len, hcp, by rw [HV.out]; exact HR.out, hb⟩
end Go.Proofs.YtgnppdkeiihlfaaGreatDoor
namespace Go.Proofs.YtgnppdkeiihlfaaGreatDoor
open Go.RowKit Num
theorem cmpZ_le {a b : Int} (h : a ≤ b) : cmpZ a b ≤ 0 := by unfold cmpZ; split <;> (try split) <;> omega
theorem cmpZ_ge {a b : Int} (h : b ≤ a) : 0 ≤ cmpZ a b := by unfold cmpZ; split <;> (try split) <;> omega
end Go.Proofs.YtgnppdkeiihlfaaGreatDoor
namespace Go.Proofs.YtgnppdkeiihlfaaGreatDoor
open Go.RowKit Num
deriving instance DecidableEq for Mon
theorem two_at {w w' : World} {a b c d : List UInt8} (hw : w' = w.alloc (.cells #[.string ⟨a.toArray⟩, .string ⟨b.toArray⟩, .string ⟨c.toArray⟩, .string ⟨d.toArray⟩] 48)) : MonAt w' (some ⟨w.heap.size, 0, none⟩) [⟨a, b⟩, ⟨c, d⟩] := fun i t ht => by
  have hi := (List.getElem?_eq_some_iff.1 ht).1
  have hi : i = 0 ∨ i = 1 := by simp at hi; omega
  rw [hw]
  rcases hi with rfl | rfl <;> (simp at ht; subst ht; exact ⟨w.heap.size, 0, rfl, by simp, by simp [go_sem], by simp [go_sem]⟩)
end Go.Proofs.YtgnppdkeiihlfaaGreatDoor
