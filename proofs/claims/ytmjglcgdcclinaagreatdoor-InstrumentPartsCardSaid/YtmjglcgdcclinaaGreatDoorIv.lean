/- Instruments compared; slices.Equal at instruments; Same of both. -/
import Derived.Test.YtmjglcgdcclinaaGreatDoorIu
import Derived.Laws.StructEq
namespace Go.Proofs.YtmjglcgdcclinaaGreatDoor
open Go.RowKit Num
theorem eqf_step {P : Program} {w : World} {d : Nat} {xs ys : Array Value} {f : Field} {fs : List Field} {a b : Value} {r B : Bool} (hn : f.name ≠ "_") (h1 : (part f.type xs f.offset).run P w = .ok a w) (h2 : (part f.type ys f.offset).run P w = .ok b w) (h3 : (Op.equalIn d f.type a b).run P w = .ok r w) (h4 : (Op.eqFields d xs ys fs).run P w = .ok B w) :
    (Op.eqFields d xs ys (f :: fs)).run P w = .ok (r && B) w := by
  unfold Op.eqFields
  rw [if_pos hn]
  simp only [Sem.run_bind, h1, h2, h3, Result.andThen_ok]
  cases r
  · simp
  · simp [h4]
theorem eqf_nil {P : Program} {w : World} {d : Nat} {xs ys : Array Value} : (Op.eqFields d xs ys []).run P w = .ok true w := by unfold Op.eqFields; simp
def sameF (a b c d : List UInt8) : Bool := (a == c) && ((b == d) && true)
def sameI (x y : Ins) : Bool := (x.id == y.id) && ((x.kind == y.kind) && ((x.cur == y.cur) && ((x.places == y.places) && ((x.issued == y.issued) && ((x.matures == y.matures) && (sameF x.fn x.fd y.fn y.fd && (sameF x.cn x.cd y.cn y.cd && ((x.months == y.months) && ((x.count == y.count) && ((x.other == y.other) && (sameF x.sn x.sd y.sn y.sd && true)))))))))))
theorem fracEq (a b c d : List UInt8) (n : Nat) (w : World) : (Op.equalIn (n + 2) 32 (.agg #[.string ⟨a.toArray⟩, .string ⟨b.toArray⟩]) (.agg #[.string ⟨c.toArray⟩, .string ⟨d.toArray⟩])).run Tryz.prog w = .ok (sameF a b c d) w := by
  have hS : Tryz.prog.underlying 32 = some (.struct (Tryz.prog.fieldsOf 32)) := by kernel_rfl
  have hp : Tryz.prog.stoodInHeld 32 = false := by kernel_rfl
  rw [run_equalIn_agg w (n + 1) 32 _ _ hS hp]
  simp only [Program.fieldsOf, Tryz.underlying32]
  unfold sameF
  refine eqf_step (by decide) (a := .string ⟨a.toArray⟩) (b := .string ⟨c.toArray⟩) (by go_simp) (by go_simp) ?_ (eqf_step (by decide) (a := .string ⟨b.toArray⟩) (b := .string ⟨d.toArray⟩) (by go_simp) (by go_simp) ?_ eqf_nil)
  · rw [run_equalIn_string w n _ _ _ Tryz.underlying30]; simp
  · rw [run_equalIn_string w n _ _ _ Tryz.underlying30]; simp

set_option maxRecDepth 100000 in

set_option maxRecDepth 100000 in
theorem insEq (x y : Ins) (w : World) : (Op.equalIn 10000 34 (Value.agg #[Value.string ⟨List.toArray x.id⟩, Value.int .i64 x.kind, Value.string ⟨List.toArray x.cur⟩, Value.int .i64 x.places, Value.int .i64 x.issued, Value.int .i64 x.matures, Value.string ⟨List.toArray x.fn⟩, Value.string ⟨List.toArray x.fd⟩, Value.string ⟨List.toArray x.cn⟩, Value.string ⟨List.toArray x.cd⟩, Value.int .i64 x.months, Value.int .i64 x.count, Value.string ⟨List.toArray x.other⟩, Value.string ⟨List.toArray x.sn⟩, Value.string ⟨List.toArray x.sd⟩]) (Value.agg #[Value.string ⟨List.toArray y.id⟩, Value.int .i64 y.kind, Value.string ⟨List.toArray y.cur⟩, Value.int .i64 y.places, Value.int .i64 y.issued, Value.int .i64 y.matures, Value.string ⟨List.toArray y.fn⟩, Value.string ⟨List.toArray y.fd⟩, Value.string ⟨List.toArray y.cn⟩, Value.string ⟨List.toArray y.cd⟩, Value.int .i64 y.months, Value.int .i64 y.count, Value.string ⟨List.toArray y.other⟩, Value.string ⟨List.toArray y.sn⟩, Value.string ⟨List.toArray y.sd⟩])).run Tryz.prog w = .ok (sameI x y) w := by
  have hS : Tryz.prog.underlying 34 = some (.struct (Tryz.prog.fieldsOf 34)) := by kernel_rfl
  have hp : Tryz.prog.stoodInHeld 34 = false := by kernel_rfl
  rw [show (10000 : Nat) = 9999 + 1 from rfl, run_equalIn_agg w 9999 34 _ _ hS hp]
  simp only [Program.fieldsOf, Tryz.underlying34]
  unfold sameI
  exact (eqf_step (by decide) (a := .string ⟨x.id.toArray⟩) (b := .string ⟨y.id.toArray⟩) (by go_simp) (by go_simp) (by rw [run_equalIn_string w 9998 _ _ _ Tryz.underlying9]; simp) (eqf_step (by decide) (a := .int .i64 x.kind) (b := .int .i64 y.kind) (by go_simp) (by go_simp) (run_equalIn_int w 9998 _ _ _ _ _ Tryz.underlying3) (eqf_step (by decide) (a := .string ⟨x.cur.toArray⟩) (b := .string ⟨y.cur.toArray⟩) (by go_simp) (by go_simp) (by rw [run_equalIn_string w 9998 _ _ _ Tryz.underlying9]; simp) (eqf_step (by decide) (a := .int .i64 x.places) (b := .int .i64 y.places) (by go_simp) (by go_simp) (run_equalIn_int w 9998 _ _ _ _ _ Tryz.underlying3) (eqf_step (by decide) (a := .int .i64 x.issued) (b := .int .i64 y.issued) (by go_simp) (by go_simp) (run_equalIn_int w 9998 _ _ _ _ _ Tryz.underlying29) (eqf_step (by decide) (a := .int .i64 x.matures) (b := .int .i64 y.matures) (by go_simp) (by go_simp) (run_equalIn_int w 9998 _ _ _ _ _ Tryz.underlying29) (eqf_step (by decide) (a := .agg #[.string ⟨x.fn.toArray⟩, .string ⟨x.fd.toArray⟩]) (b := .agg #[.string ⟨y.fn.toArray⟩, .string ⟨y.fd.toArray⟩]) (by go_simp) (by go_simp) (fracEq _ _ _ _ 9997 w) (eqf_step (by decide) (a := .agg #[.string ⟨x.cn.toArray⟩, .string ⟨x.cd.toArray⟩]) (b := .agg #[.string ⟨y.cn.toArray⟩, .string ⟨y.cd.toArray⟩]) (by go_simp) (by go_simp) (fracEq _ _ _ _ 9997 w) (eqf_step (by decide) (a := .int .i64 x.months) (b := .int .i64 y.months) (by go_simp) (by go_simp) (run_equalIn_int w 9998 _ _ _ _ _ Tryz.underlying3) (eqf_step (by decide) (a := .int .i64 x.count) (b := .int .i64 y.count) (by go_simp) (by go_simp) (run_equalIn_int w 9998 _ _ _ _ _ Tryz.underlying3) (eqf_step (by decide) (a := .string ⟨x.other.toArray⟩) (b := .string ⟨y.other.toArray⟩) (by go_simp) (by go_simp) (by rw [run_equalIn_string w 9998 _ _ _ Tryz.underlying9]; simp) (eqf_step (by decide) (a := .agg #[.string ⟨x.sn.toArray⟩, .string ⟨x.sd.toArray⟩]) (b := .agg #[.string ⟨y.sn.toArray⟩, .string ⟨y.sd.toArray⟩]) (by go_simp) (by go_simp) (fracEq _ _ _ _ 9997 w) eqf_nil))))))))))))
theorem insGuard : Tryz.prog.eqGuardType Tryz.prog.depth 34 = false := by kernel_rfl
def sameL : List Ins → List Ins → Bool
  | [], [] => true
  | x :: xs, y :: ys => sameI x y && sameL xs ys
  | _, _ => false
theorem sameL_len : ∀ {xs ys : List Ins}, xs.length ≠ ys.length → sameL xs ys = false
  | [], [], h => absurd rfl h
  | [], _ :: _, _ => rfl
  | _ :: _, [], _ => rfl
  | x :: xs, y :: ys, h => by
    have : sameL xs ys = false := sameL_len (fun e => h (by simp [e]))
    simp [sameL, this]
theorem sameL_drop {xs ys : List Ins} {k : Nat} {x y : Ins} (hx : xs[k]? = some x) (hy : ys[k]? = some y) : sameL (xs.drop k) (ys.drop k) = (sameI x y && sameL (xs.drop (k + 1)) (ys.drop (k + 1))) := by
  obtain ⟨h1, rfl⟩ := List.getElem?_eq_some_iff.1 hx
  obtain ⟨h2, rfl⟩ := List.getElem?_eq_some_iff.1 hy
  rw [List.drop_eq_getElem_cons h1, List.drop_eq_getElem_cons h2]; rfl
set_option maxHeartbeats 4000000 in
set_option maxRecDepth 100000 in
theorem eqIns (A B : Option Addr) (xs ys : List Ins) (n m c c' : Nat) (w : World) (hn : xs.length = n) (hm : ys.length = m) (hn2 : n ≤ 1000000000) (hm2 : m ≤ 1000000000) (h : InsAt w A xs) (h' : InsAt w B ys) :
    Calls Tryz.prog 71 #[.slice A n c, .slice B m c'] w fun e w' => e = .returned (.bool (sameL xs ys)) ∧ Below w.heap.size w w' := by
  by_cases hnm : n = m
  rotate_left
  · have HV : Hid (sameL xs ys = false) := sameL_len (by omega)
    have e1 : ((n : Int) == (m : Int)) = false := intbne (by omega)
    have e2 := bneq' e1
    rw [HV.out]
    clear h h' hn hm hnm
    go_enter Tryz.func71, Tryz.ntmps71
    go_wp2
    go_ret
    exact ⟨rfl, Below.refl _ _⟩
  subst hnm
  have H1 := Lib.hid h
  have H2 := Lib.hid h'
  have hn1 : xs.length ≤ n := by omega
  have hn3 : n ≤ xs.length := by omega
  have hm1 : ys.length ≤ n := by omega
  have hm3 : n ≤ ys.length := by omega
  clear h h' hn hm
  go_enter Tryz.func71, Tryz.ntmps71
  go_wp2_with fail
  go_loopw [13] (fun iv wr => ∃ k : Nat, k ≤ n ∧ iv = .int .i64 (k : Int) ∧ Hid (sameL xs ys = sameL (xs.drop k) (ys.drop k)) ∧ Below w.heap.size w wr) (fun iv _ => n - (intOf iv).toNat)
  case atStart => exact ⟨0, Nat.zero_le _, rfl, rfl, Below.refl _ _⟩
  case round =>
    obtain ⟨k, hk, rfl, HK, hb⟩ := hrel
    by_cases hlt : k < n
    · obtain ⟨x, hx⟩ : ∃ x, xs[k]? = some x := ⟨_, List.getElem?_eq_getElem (by omega)⟩
      obtain ⟨y, hy⟩ : ∃ y, ys[k]? = some y := ⟨_, List.getElem?_eq_getElem (by omega)⟩
      obtain ⟨b, o, rfl, hbs, hc⟩ := (H1.out.below hb) k x hx
      obtain ⟨b', o', rfl, hds, hd⟩ := (H2.out.below hb) k y hy
      have HD := Lib.hid (sameL_drop hx hy)
      clear hx hy
      go_wp2_with fail
      refine wp_region_kept (by kernel_rfl) (by kernel_rfl) ?_
      refine kept_val _ (fun _ => rfl) (fun ρ w hw => by go_simp; first | done | with_reducible rfl) ?_
      simp only [Act.put, List.setIfInBounds_toArray, List.set_cons_zero, List.set_cons_succ, Nat.reduceAdd]
      refine kept_val _ (fun _ => rfl) (fun ρ w hw => by go_simp; first | done | with_reducible rfl) ?_
      simp only [Act.put, List.setIfInBounds_toArray, List.set_cons_zero, List.set_cons_succ, Nat.reduceAdd]
      refine kept_val _ (fun _ => rfl) (fun ρ w hw => by go_simp; first | done | with_reducible rfl) ?_
      simp only [Act.put, List.setIfInBounds_toArray, List.set_cons_zero, List.set_cons_succ, Nat.reduceAdd]
      refine kept_val _ (fun _ => rfl) (fun ρ w hw => by have hc' := hc.below hbs hw; have q0 := hc'.c0; have q1 := hc'.c1; have q2 := hc'.c2; have q3 := hc'.c3; have q4 := hc'.c4; have q5 := hc'.c5; have q6 := hc'.c6; have q7 := hc'.c7; have q8 := hc'.c8; have q9 := hc'.c9; have q10 := hc'.c10; have q11 := hc'.c11; have q12 := hc'.c12; have q13 := hc'.c13; have q14 := hc'.c14; go_simp; first | done | with_reducible rfl) ?_
      simp only [Act.put, List.setIfInBounds_toArray, List.set_cons_zero, List.set_cons_succ, Nat.reduceAdd]
      refine kept_val _ (fun _ => rfl) (fun ρ w hw => by go_simp; first | done | with_reducible rfl) ?_
      simp only [Act.put, List.setIfInBounds_toArray, List.set_cons_zero, List.set_cons_succ, Nat.reduceAdd]
      refine kept_val _ (fun _ => rfl) (fun ρ w hw => by go_simp; first | done | with_reducible rfl) ?_
      simp only [Act.put, List.setIfInBounds_toArray, List.set_cons_zero, List.set_cons_succ, Nat.reduceAdd]
      refine kept_val _ (fun _ => rfl) (fun ρ w hw => by go_simp; first | done | with_reducible rfl) ?_
      simp only [Act.put, List.setIfInBounds_toArray, List.set_cons_zero, List.set_cons_succ, Nat.reduceAdd]
      refine kept_val _ (fun _ => rfl) (fun ρ w hw => by have hd' := hd.below hds hw; have q0 := hd'.c0; have q1 := hd'.c1; have q2 := hd'.c2; have q3 := hd'.c3; have q4 := hd'.c4; have q5 := hd'.c5; have q6 := hd'.c6; have q7 := hd'.c7; have q8 := hd'.c8; have q9 := hd'.c9; have q10 := hd'.c10; have q11 := hd'.c11; have q12 := hd'.c12; have q13 := hd'.c13; have q14 := hd'.c14; go_simp; first | done | with_reducible rfl) ?_
      simp only [Act.put, List.setIfInBounds_toArray, List.set_cons_zero, List.set_cons_succ, Nat.reduceAdd]
      refine kept_val _ (fun _ => rfl) (fun ρ w hw => by have hE := insEq x y; have hEG := insGuard; go_simp; first | done | with_reducible rfl) ?_
      simp only [Act.put, List.setIfInBounds_toArray, List.set_cons_zero, List.set_cons_succ, Nat.reduceAdd]
      refine kept_end (fun ρ w6 hF => ?_)
      replace hb := bto hb hF.below
      clear hF
      cases hs : sameI x y
      · have HV : Hid (sameL xs ys = false) := by show _ = _; rw [HK.out, HD.out, hs]; rfl
        clear hs HK HD hc hd
        go_wp2
        go_ret
        exact ⟨by rw [HV.out]; first | done | rfl, hb⟩
      · have HV : Hid (sameL xs ys = sameL (xs.drop (k + 1)) (ys.drop (k + 1))) := by show _ = _; rw [HK.out, HD.out, hs]; rfl
        clear hs HK HD hc hd
        go_wp2
        go_roundw
        case rel => exact ⟨k + 1, by omega, by go_num, HV, hb⟩
        case measure => simp [intOf]; omega
    · have HV : Hid (sameL xs ys = true) := by show _ = _; rw [HK.out, List.drop_of_length_le (by omega), List.drop_of_length_le (by omega)]; rfl
      clear HK
      go_wp2
      go_ret
      exact ⟨by rw [HV.out]; first | done | rfl, hb⟩
set_option maxHeartbeats 1000000 in
set_option maxRecDepth 100000 in
theorem iSame (A B : Option Addr) (xs ys : List Ins) (n m c c' : Nat) (w : World) (hn : xs.length = n) (hm : ys.length = m) (hn2 : n ≤ 1000000000) (hm2 : m ≤ 1000000000) (h : InsAt w A xs) (h' : InsAt w B ys) :
    Calls Tryz.prog 20 #[.slice A n c, .slice B m c'] w fun e w' => e = .returned (.bool (sameL xs ys)) ∧ Below w.heap.size w w' := by
  have C1 := Lib.hid (eqIns A B xs ys n m c c' w hn hm hn2 hm2 h h')
  clear h h' hn hm
  generalize sameL xs ys = V at *
  go_enter Tryz.func20, Tryz.ntmps20
  go_wp2_with fail
  ((with_reducible refine C1.out.mono ?_); rintro e w2 ⟨rfl, hb2⟩)
  go_wp2
  go_ret
  exact ⟨rfl, hb2⟩
def idxC : List Cur → Nat → Int
  | [], _ => -1
  | a :: t, k => if 60 < a.code.length then (k : Int) else idxC t (k + 1)
theorem idxC_drop {zs : List Cur} {k : Nat} {y : Cur} (h : zs[k]? = some y) : idxC (zs.drop k) k = if 60 < y.code.length then (k : Int) else idxC (zs.drop (k + 1)) (k + 1) := by
  obtain ⟨hk, rfl⟩ := List.getElem?_eq_some_iff.1 h
  rw [List.drop_eq_getElem_cons hk]; rfl
end Go.Proofs.YtmjglcgdcclinaaGreatDoor
