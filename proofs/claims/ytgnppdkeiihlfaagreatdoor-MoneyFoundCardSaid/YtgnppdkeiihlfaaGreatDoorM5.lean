/- Texts put together: Nb Nc Nd Sd. -/
import Derived.Test.YtgnppdkeiihlfaaGreatDoorM4
import Derived.WalkKit
import Derived.Deep.RegionLaw
import Derived.Lib.SliceRun
import Derived.Laws.IdiomCopy
import Derived.Lib.SlBuf
namespace Go.Proofs.YtgnppdkeiihlfaaGreatDoor
open Go.RowKit Num
def parseP (s : List UInt8) (p : Nat) : List UInt8 × Int := if decOk s = true then (if (decQ s * tenQ p).den = 1 then (canon (decQ s * tenQ p).num, 0) else ([], 22)) else ([], 3)
theorem parseV_P (s : List UInt8) (p : Nat) : ParseV s p = .tuple #[.string ⟨(parseP s p).1.toArray⟩, .int .i64 (parseP s p).2] := by
  unfold parseP
  by_cases h : decOk s = true
  · rw [if_pos h]
    by_cases h1 : (decQ s * tenQ p).den = 1
    · rw [if_pos h1, parseV_1 h h1]
    · rw [if_neg h1, parseV_0 h h1]
  · rw [if_neg h, parseV_f (not_true_b h)]
def noM : Mon := ⟨[], []⟩
/-- what Parse returns -/
def mParse (ts : List Cur) (s : List UInt8) : Mon × Int :=
  if ¬ tabE ts = 0 then (noM, 1) else if 65536 < s.length then (noM, 4) else if s.length < 4 then (noM, 3) else if ¬ s[s.length - 4]? = some 32 then (noM, 3) else if ¬ codeB (s.drop (s.length - 3)) = true then (noM, 3) else
    match findT ts (s.drop (s.length - 3)) with
    | none => (noM, 12)
    | some c => if (parseP (s.take (s.length - 4)) c.places.toNat).2 = 0 then (⟨s.drop (s.length - 3), (parseP (s.take (s.length - 4)) c.places.toNat).1⟩, 0) else (noM, (parseP (s.take (s.length - 4)) c.places.toNat).2)
def pmV (r : Mon × Int) : Value := .tuple #[.agg #[.string ⟨r.1.cur.toArray⟩, .string ⟨r.1.amt.toArray⟩], .int .i64 r.2]

set_option maxHeartbeats 4000000 in
set_option maxRecDepth 100000 in
theorem mParseW (A : Option Addr) (ts : List Cur) (n c : Nat) (s : List UInt8) (w : World) (hG : Glob w) (hT : TL w A ts n c) (hs : s.length ≤ 1000 ∨ 65536 < s.length) (hs2 : s.length ≤ 9223372036854775807) :
    Calls Tryz.prog 105 #[.slice A n c, .string ⟨s.toArray⟩] w fun e w' => e = .returned (pmV (mParse ts s)) ∧ Below w.heap.size w w' := by
  have CB := Lib.hid (mTableB hG hT)
  have hb := below_alloc w (.cells #[.string ⟨#[]⟩, .string ⟨#[]⟩] 48)
  have x4 := FBox.new w (.string ⟨#[]⟩) (.string ⟨#[]⟩) 48
  have HTL := Lib.hid hT
  clear hT
  by_cases g0 : tabE ts = 0
  rotate_left
  · have HV : Hid (mParse ts s = (noM, 1)) := if_pos g0
    have e1 : (tabE ts != 0) = true := bneq' (intbne g0)
    generalize tabE ts = E at *
    clear g0
    go_enter Tryz.func105, Tryz.ntmps105
    go_wp2_with fail
    ((with_reducible refine (CB.out.of hG hb).mono ?_); rintro e w2 ⟨rfl, hb2⟩)
    replace x4 := x4.below hb2
    replace hb := bto hb hb2
    clear hb2
    clear CB
    have v0 := x4.c0
    have v1 := x4.c1
    have v2 := x4.f0
    have v3 := x4.f1
    go_wp2
    have hy := x4.set (.string ⟨#[]⟩) (.string ⟨#[]⟩)
    have d0 := hy.c0
    have d1 := hy.c1
    refine bodyPost_ret (v := .tuple #[.agg #[.string ⟨#[]⟩, .string ⟨#[]⟩], .int .i64 1]) (by simp [results, Tryz.results105, go_sem, d0, d1]) rfl ?_
    exact ⟨by rw [HV.out]; rfl, below_set2 hb (Nat.le_refl _) _ _⟩
  have HV0 := Lib.hid (show mParse ts s = _ from if_neg (fun h => h g0))
  have HTt := Lib.hid (fun code c (h : findT ts code = some c) => (And.intro ((tabE_ok g0).2 c (findT_some h).1).2 (findT_some h).2))
  rw [g0] at CB
  clear g0
  by_cases gl : 65536 < s.length
  · have HV : Hid (mParse ts s = (noM, 4)) := HV0.out.trans (if_pos gl)
    have e1 : decide (65536 < s.length) = true := decide_eq_true gl
    have e2 : decide ((65536 : Int) < (s.length : Int)) = true := decide_eq_true (by omega)
    clear HV0
    go_enter Tryz.func105, Tryz.ntmps105
    go_wp2_with fail
    ((with_reducible refine (CB.out.of hG hb).mono ?_); rintro e w2 ⟨rfl, hb2⟩)
    replace x4 := x4.below hb2
    replace hb := bto hb hb2
    clear hb2
    clear CB
    have v0 := x4.c0
    have v1 := x4.c1
    have v2 := x4.f0
    have v3 := x4.f1
    go_wp2
    have hy := x4.set (.string ⟨#[]⟩) (.string ⟨#[]⟩)
    have d0 := hy.c0
    have d1 := hy.c1
    refine bodyPost_ret (v := .tuple #[.agg #[.string ⟨#[]⟩, .string ⟨#[]⟩], .int .i64 4]) (by simp [results, Tryz.results105, go_sem, d0, d1]) rfl ?_
    exact ⟨by rw [HV.out]; rfl, below_set2 hb (Nat.le_refl _) _ _⟩
  have hK : s.length ≤ 1000 := by omega
  have HV1 := Lib.hid (HV0.out.trans (if_neg gl))
  have e1 : decide (65536 < s.length) = false := decide_eq_false gl
  have e2 : decide ((65536 : Int) < (s.length : Int)) = false := decide_eq_false (by omega)
  have hwp : IntKind.i64.wrap ((s.length : Int) - 4) = (s.length : Int) - 4 := Go.IntWalk.i64_in _ (by omega)
  clear HV0
  by_cases g4 : s.length < 4
  · have HV : Hid (mParse ts s = (noM, 3)) := HV1.out.trans (if_pos g4)
    have e3 : decide ((s.length : Int) - 4 < 0) = true := decide_eq_true (by omega)
    have e4 : decide ((s.length : Int) < 4) = true := decide_eq_true (by omega)
    have e5 : decide (s.length < 4) = true := decide_eq_true g4
    clear HV1
    go_enter Tryz.func105, Tryz.ntmps105
    go_wp2_with fail
    ((with_reducible refine (CB.out.of hG hb).mono ?_); rintro e w2 ⟨rfl, hb2⟩)
    replace x4 := x4.below hb2
    replace hb := bto hb hb2
    clear hb2
    clear CB
    have v0 := x4.c0
    have v1 := x4.c1
    have v2 := x4.f0
    have v3 := x4.f1
    go_wp2
    have hy := x4.set (.string ⟨#[]⟩) (.string ⟨#[]⟩)
    have d0 := hy.c0
    have d1 := hy.c1
    refine bodyPost_ret (v := .tuple #[.agg #[.string ⟨#[]⟩, .string ⟨#[]⟩], .int .i64 3]) (by simp [results, Tryz.results105, go_sem, d0, d1]) rfl ?_
    exact ⟨by rw [HV.out]; rfl, below_set2 hb (Nat.le_refl _) _ _⟩
  have HV2 := Lib.hid (HV1.out.trans (if_neg g4))
  obtain ⟨k, hk⟩ : ∃ k, s.length = k + 4 := ⟨s.length - 4, by omega⟩
  obtain ⟨x, hx⟩ : ∃ x, s[k]? = some x := ⟨_, List.getElem?_eq_getElem (by omega)⟩
  obtain ⟨C, hC⟩ : ∃ C, C = s.drop (k + 1) := ⟨_, rfl⟩
  obtain ⟨T, hT⟩ : ∃ T, T = s.take k := ⟨_, rfl⟩
  have hv2 := HV2.out
  rw [show s.length - 4 = k by omega, show s.length - 3 = k + 1 by omega, hx, ← hC, ← hT] at hv2
  have HV3 := Lib.hid hv2
  have hCl : C.length = 3 := by rw [hC, List.length_drop]; omega
  have hTl : T.length = k := by rw [hT, List.length_take]; omega
  have hkk : k < (⟨s.toArray⟩ : ByteArray).size := by show k < s.toArray.size; simp; omega
  have hx2 : ∀ hp, (⟨s.toArray⟩ : ByteArray)[k]'hp = x := fun hp => by
    have h1 : s[k]? = some ((⟨s.toArray⟩ : ByteArray)[k]'hp) := List.getElem?_eq_getElem (by omega)
    rw [hx] at h1; injection h1 with h1; exact h1.symm
  have k5 : (⟨s.toArray⟩ : ByteArray).extract (k + 1) (k + 4) = ⟨C.toArray⟩ := by
    rw [extract_list, List.take_of_length_le (by omega), ← hC]
  have k6 : (⟨s.toArray⟩ : ByteArray).extract 0 k = ⟨T.toArray⟩ := by rw [extract_list, List.drop_zero, ← hT]
  have HCl := Lib.hid hCl
  have HTl := Lib.hid hTl
  have hwp1 : IntKind.i64.wrap ((k : Int) + 1) = (k : Int) + 1 := Go.IntWalk.i64_in _ (by omega)
  have hwp2 : IntKind.i64.wrap (k : Int) = (k : Int) := Go.IntWalk.i64_in _ (by omega)
  have kn1 : ((k : Int) + 1).toNat = k + 1 := by omega
  have kz1 : (0 : Int) ≤ (k : Int) + 1 := by omega
  have kz2 : (k : Int) + 1 ≤ (k : Int) + 4 := by omega
  have kz3 : (k : Int) ≤ (k : Int) + 4 := by omega
  have kz4 : (k : Int) < (k : Int) + 4 := by omega
  have kz5 : ¬ ((k : Int) < 0) := by omega
  clear hwp HV1 HV2 hv2 hC hT hCl hTl g4 gl e1 e2 hx
  have e1 : decide ((65536 : Int) < (k : Int) + 4) = false := decide_eq_false (by omega)
  have e2 : decide (65536 < k + 4) = false := decide_eq_false (by omega)
  have hk4 : k + 4 ≤ 1000 := by omega
  by_cases gx : x = 32
  rotate_left
  · have HV : Hid (mParse ts s = (noM, 3)) := HV3.out.trans (if_pos (fun h => gx (by injection h)))
    have e3 : ((x.toNat : Int) == 32) = false := by rw [beq_eq_false_iff_ne]; exact fun h => gx (UInt8.toNat_inj.1 (by show x.toNat = 32; omega))
    have e4 := bneq' e3
    clear gx HV3
    go_enter Tryz.func105, Tryz.ntmps105
    go_wp2_with fail
    ((with_reducible refine (CB.out.of hG hb).mono ?_); rintro e w2 ⟨rfl, hb2⟩)
    replace x4 := x4.below hb2
    replace hb := bto hb hb2
    clear hb2
    clear CB
    have v0 := x4.c0
    have v1 := x4.c1
    have v2 := x4.f0
    have v3 := x4.f1
    go_wp2
    have hy := x4.set (.string ⟨#[]⟩) (.string ⟨#[]⟩)
    have d0 := hy.c0
    have d1 := hy.c1
    refine bodyPost_ret (v := .tuple #[.agg #[.string ⟨#[]⟩, .string ⟨#[]⟩], .int .i64 3]) (by simp [results, Tryz.results105, go_sem, d0, d1]) rfl ?_
    exact ⟨by rw [HV.out]; rfl, below_set2 hb (Nat.le_refl _) _ _⟩
  have e3 : ((x.toNat : Int) == 32) = true := by rw [gx]; rfl
  have e4 := bneq e3
  have HV4 := Lib.hid (HV3.out.trans (if_neg (fun h => h (by rw [gx]))))
  have CD := Lib.hid (mCode (l := C) (by rw [HCl.out]; omega))
  clear gx HV3
  by_cases gd : codeB C = true
  rotate_left
  · have HV : Hid (mParse ts s = (noM, 3)) := HV4.out.trans (if_pos gd)
    have e5 := not_true_b gd
    rw [e5] at CD
    clear gd e5 HV4
    go_enter Tryz.func105, Tryz.ntmps105
    go_wp2_with fail
    ((with_reducible refine (CB.out.of hG hb).mono ?_); rintro e w2 ⟨rfl, hb2⟩)
    replace x4 := x4.below hb2
    replace hb := bto hb hb2
    clear hb2
    clear CB
    go_wp2_with fail
    ((with_reducible refine (CD.out.of hG hb).mono ?_); rintro e w3 ⟨rfl, hb3⟩)
    replace x4 := x4.below hb3
    replace hb := bto hb hb3
    clear hb3
    clear CD
    have v0 := x4.c0
    have v1 := x4.c1
    have v2 := x4.f0
    have v3 := x4.f1
    go_wp2
    have hy := x4.set (.string ⟨#[]⟩) (.string ⟨#[]⟩)
    have d0 := hy.c0
    have d1 := hy.c1
    refine bodyPost_ret (v := .tuple #[.agg #[.string ⟨#[]⟩, .string ⟨#[]⟩], .int .i64 3]) (by simp [results, Tryz.results105, go_sem, d0, d1]) rfl ?_
    exact ⟨by rw [HV.out]; rfl, below_set2 hb (Nat.le_refl _) _ _⟩
  have HV5 := Lib.hid (HV4.out.trans (if_neg (fun h => h gd)))
  rw [gd] at CD
  clear gd HV4
  have CFn := Lib.hid (mFindB HTL.out C)
  have HT := Lib.hid (HTt.out C)
  clear HTt
  generalize findT ts C = fo at *
  cases fo with
  | none =>
    have HV : Hid (mParse ts s = (noM, 12)) := HV5.out
    have cfq : RetB w 45 #[.slice A n c, .string ⟨C.toArray⟩] (.tuple #[.agg #[.string ⟨#[]⟩, .int .i64 0], .bool false]) := CFn.out
    have CFq := Lib.hid cfq
    clear HV5 HT CFn cfq
    go_enter Tryz.func105, Tryz.ntmps105
    go_wp2_with fail
    ((with_reducible refine (CB.out.of hG hb).mono ?_); rintro e w2 ⟨rfl, hb2⟩)
    replace x4 := x4.below hb2
    replace hb := bto hb hb2
    clear hb2
    clear CB
    go_wp2_with fail
    ((with_reducible refine (CD.out.of hG hb).mono ?_); rintro e w3 ⟨rfl, hb3⟩)
    replace x4 := x4.below hb3
    replace hb := bto hb hb3
    clear hb3
    clear CD
    go_wp2_with fail
    ((with_reducible refine (CFq.out.of hG hb).mono ?_); rintro e w4 ⟨rfl, hb4⟩)
    replace x4 := x4.below hb4
    replace hb := bto hb hb4
    clear hb4
    have hbA := below_alloc w4 (.cells #[.string ⟨#[]⟩, .int .i64 0] 64)
    have x7 := FBox.new w4 (.string ⟨#[]⟩) (.int .i64 0) 64
    replace x4 := x4.below hbA
    replace hb := bto hb hbA
    clear hbA
    clear CFq x7
    have v0 := x4.c0
    have v1 := x4.c1
    have v2 := x4.f0
    have v3 := x4.f1
    go_wp2
    have hy := x4.set (.string ⟨#[]⟩) (.string ⟨#[]⟩)
    have d0 := hy.c0
    have d1 := hy.c1
    refine bodyPost_ret (v := .tuple #[.agg #[.string ⟨#[]⟩, .string ⟨#[]⟩], .int .i64 12]) (by simp [results, Tryz.results105, go_sem, d0, d1]) rfl ?_
    exact ⟨by rw [HV.out]; rfl, below_set2 hb (Nat.le_refl _) _ _⟩
  | some t =>
    obtain ⟨⟨ht0, ht12⟩, htc⟩ := HT.out t rfl
    obtain ⟨p, hp⟩ : ∃ p : Nat, p = t.places.toNat := ⟨_, rfl⟩
    have hp2 : t.places = (p : Int) := by omega
    have hp12 : p ≤ 12 := by omega
    have cfq : RetB w 45 #[.slice A n c, .string ⟨C.toArray⟩] (.tuple #[.agg #[.string ⟨t.code.toArray⟩, .int .i64 t.places], .bool true]) := CFn.out
    rw [hp2, htc] at cfq
    have CFq := Lib.hid cfq
    obtain ⟨Pa, hPa⟩ : ∃ x, x = (parseP T p).1 := ⟨_, rfl⟩
    obtain ⟨Pe, hPe⟩ : ∃ x, x = (parseP T p).2 := ⟨_, rfl⟩
    have HV6 : Hid (mParse ts s = if Pe = 0 then (⟨C, Pa⟩, 0) else (noM, Pe)) := by rw [hPa, hPe, hp]; exact HV5.out
    have cx := dParse (s := T) (by rw [HTl.out]; omega) (p := p) hp12
    rw [parseV_P, ← hPa, ← hPe] at cx
    have CX := Lib.hid cx
    clear HV5 HT ht0 ht12 htc hp hp2 CFn cfq cx hPa hPe
    by_cases gp : Pe = 0
    · subst gp
      have HV : Hid (mParse ts s = (⟨C, Pa⟩, 0)) := HV6.out
      clear HV6
      go_enter Tryz.func105, Tryz.ntmps105
      go_wp2_with fail
      ((with_reducible refine (CB.out.of hG hb).mono ?_); rintro e w2 ⟨rfl, hb2⟩)
      replace x4 := x4.below hb2
      replace hb := bto hb hb2
      clear hb2
      clear CB
      go_wp2_with fail
      ((with_reducible refine (CD.out.of hG hb).mono ?_); rintro e w3 ⟨rfl, hb3⟩)
      replace x4 := x4.below hb3
      replace hb := bto hb hb3
      clear hb3
      clear CD
      go_wp2_with fail
      ((with_reducible refine (CFq.out.of hG hb).mono ?_); rintro e w4 ⟨rfl, hb4⟩)
      replace x4 := x4.below hb4
      replace hb := bto hb hb4
      clear hb4
      have hbA := below_alloc w4 (.cells #[.string ⟨C.toArray⟩, .int .i64 (p : Int)] 64)
      have x7 := FBox.new w4 (.string ⟨C.toArray⟩) (.int .i64 (p : Int)) 64
      replace x4 := x4.below hbA
      replace hb := bto hb hbA
      clear hbA
      clear CFq
      go_wp2_with fail
      refine wp_region_kept (by kernel_rfl) (by kernel_rfl) ?_
      refine kept_val _ (fun _ => rfl) (fun ρ w hw => by go_simp; first | done | with_reducible rfl) ?_
      simp only [Act.put, List.setIfInBounds_toArray, List.set_cons_zero, List.set_cons_succ, Nat.reduceAdd]
      refine kept_val _ (fun _ => rfl) (fun ρ w hw => by go_simp; first | done | with_reducible rfl) ?_
      simp only [Act.put, List.setIfInBounds_toArray, List.set_cons_zero, List.set_cons_succ, Nat.reduceAdd]
      refine kept_val _ (fun _ => rfl) (fun ρ w hw => by go_simp; first | done | with_reducible rfl) ?_
      simp only [Act.put, List.setIfInBounds_toArray, List.set_cons_zero, List.set_cons_succ, Nat.reduceAdd]
      refine kept_val _ (fun _ => rfl) (fun ρ w hw => by go_simp; first | done | with_reducible rfl) ?_
      simp only [Act.put, List.setIfInBounds_toArray, List.set_cons_zero, List.set_cons_succ, Nat.reduceAdd]
      refine kept_val _ (fun _ => rfl) (fun ρ w hw => by have q0 := (x7.below hw).c1; go_simp; first | done | with_reducible rfl) ?_
      simp only [Act.put, List.setIfInBounds_toArray, List.set_cons_zero, List.set_cons_succ, Nat.reduceAdd]
      refine kept_call _ _ _ (fun _ => rfl) (fun ρ w hw => by go_simp; first | done | with_reducible rfl) (fun w hw => CX.out.of (hG) (bto hb hw)) ?_
      simp only [Act.put, List.setIfInBounds_toArray, List.set_cons_zero, List.set_cons_succ, Nat.reduceAdd]
      refine kept_val _ (fun _ => rfl) (fun ρ w hw => by go_simp; first | done | with_reducible rfl) ?_
      simp only [Act.put, List.setIfInBounds_toArray, List.set_cons_zero, List.set_cons_succ, Nat.reduceAdd]
      refine kept_val _ (fun _ => rfl) (fun ρ w hw => by go_simp; first | done | with_reducible rfl) ?_
      simp only [Act.put, List.setIfInBounds_toArray, List.set_cons_zero, List.set_cons_succ, Nat.reduceAdd]
      refine kept_val _ (fun _ => rfl) (fun ρ w hw => by go_simp; first | done | with_reducible rfl) ?_
      simp only [Act.put, List.setIfInBounds_toArray, List.set_cons_zero, List.set_cons_succ, Nat.reduceAdd]
      refine kept_val _ (fun _ => rfl) (fun ρ w hw => by go_simp; first | done | with_reducible rfl) ?_
      simp only [Act.put, List.setIfInBounds_toArray, List.set_cons_zero, List.set_cons_succ, Nat.reduceAdd]
      refine kept_val _ (fun _ => rfl) (fun ρ w hw => by go_simp; first | done | with_reducible rfl) ?_
      simp only [Act.put, List.setIfInBounds_toArray, List.set_cons_zero, List.set_cons_succ, Nat.reduceAdd]
      refine kept_end (fun ρ w7 hF => ?_)
      replace x4 := x4.below hF.below
      replace x7 := x7.below hF.below
      replace hb := bto hb hF.below
      clear hF CX
      have q7 := x7.c0
      have v0 := x4.c0
      have v1 := x4.c1
      have v2 := x4.f0
      have v3 := x4.f1
      go_wp2
      have hy := x4.set (.string ⟨(C).toArray⟩) (.string ⟨(Pa).toArray⟩)
      have d0 := hy.c0
      have d1 := hy.c1
      refine bodyPost_ret (v := .tuple #[.agg #[.string ⟨(C).toArray⟩, .string ⟨(Pa).toArray⟩], .int .i64 0]) (by simp [results, Tryz.results105, go_sem, d0, d1]) rfl ?_
      exact ⟨by rw [HV.out]; rfl, below_set2 hb (Nat.le_refl _) _ _⟩
    · have HV : Hid (mParse ts s = (noM, Pe)) := HV6.out.trans (if_neg gp)
      have e5 : (Pe == 0) = false := intbne gp
      have e6 := bneq' e5
      clear HV6 gp
      go_enter Tryz.func105, Tryz.ntmps105
      go_wp2_with fail
      ((with_reducible refine (CB.out.of hG hb).mono ?_); rintro e w2 ⟨rfl, hb2⟩)
      replace x4 := x4.below hb2
      replace hb := bto hb hb2
      clear hb2
      clear CB
      go_wp2_with fail
      ((with_reducible refine (CD.out.of hG hb).mono ?_); rintro e w3 ⟨rfl, hb3⟩)
      replace x4 := x4.below hb3
      replace hb := bto hb hb3
      clear hb3
      clear CD
      go_wp2_with fail
      ((with_reducible refine (CFq.out.of hG hb).mono ?_); rintro e w4 ⟨rfl, hb4⟩)
      replace x4 := x4.below hb4
      replace hb := bto hb hb4
      clear hb4
      have hbA := below_alloc w4 (.cells #[.string ⟨C.toArray⟩, .int .i64 (p : Int)] 64)
      have x7 := FBox.new w4 (.string ⟨C.toArray⟩) (.int .i64 (p : Int)) 64
      replace x4 := x4.below hbA
      replace hb := bto hb hbA
      clear hbA
      clear CFq
      go_wp2_with fail
      refine wp_region_kept (by kernel_rfl) (by kernel_rfl) ?_
      refine kept_val _ (fun _ => rfl) (fun ρ w hw => by go_simp; first | done | with_reducible rfl) ?_
      simp only [Act.put, List.setIfInBounds_toArray, List.set_cons_zero, List.set_cons_succ, Nat.reduceAdd]
      refine kept_val _ (fun _ => rfl) (fun ρ w hw => by go_simp; first | done | with_reducible rfl) ?_
      simp only [Act.put, List.setIfInBounds_toArray, List.set_cons_zero, List.set_cons_succ, Nat.reduceAdd]
      refine kept_val _ (fun _ => rfl) (fun ρ w hw => by go_simp; first | done | with_reducible rfl) ?_
      simp only [Act.put, List.setIfInBounds_toArray, List.set_cons_zero, List.set_cons_succ, Nat.reduceAdd]
      refine kept_val _ (fun _ => rfl) (fun ρ w hw => by go_simp; first | done | with_reducible rfl) ?_
      simp only [Act.put, List.setIfInBounds_toArray, List.set_cons_zero, List.set_cons_succ, Nat.reduceAdd]
      refine kept_val _ (fun _ => rfl) (fun ρ w hw => by have q0 := (x7.below hw).c1; go_simp; first | done | with_reducible rfl) ?_
      simp only [Act.put, List.setIfInBounds_toArray, List.set_cons_zero, List.set_cons_succ, Nat.reduceAdd]
      refine kept_call _ _ _ (fun _ => rfl) (fun ρ w hw => by go_simp; first | done | with_reducible rfl) (fun w hw => CX.out.of (hG) (bto hb hw)) ?_
      simp only [Act.put, List.setIfInBounds_toArray, List.set_cons_zero, List.set_cons_succ, Nat.reduceAdd]
      refine kept_val _ (fun _ => rfl) (fun ρ w hw => by go_simp; first | done | with_reducible rfl) ?_
      simp only [Act.put, List.setIfInBounds_toArray, List.set_cons_zero, List.set_cons_succ, Nat.reduceAdd]
      refine kept_val _ (fun _ => rfl) (fun ρ w hw => by go_simp; first | done | with_reducible rfl) ?_
      simp only [Act.put, List.setIfInBounds_toArray, List.set_cons_zero, List.set_cons_succ, Nat.reduceAdd]
      refine kept_val _ (fun _ => rfl) (fun ρ w hw => by go_simp; first | done | with_reducible rfl) ?_
      simp only [Act.put, List.setIfInBounds_toArray, List.set_cons_zero, List.set_cons_succ, Nat.reduceAdd]
      refine kept_val _ (fun _ => rfl) (fun ρ w hw => by go_simp; first | done | with_reducible rfl) ?_
      simp only [Act.put, List.setIfInBounds_toArray, List.set_cons_zero, List.set_cons_succ, Nat.reduceAdd]
      refine kept_val _ (fun _ => rfl) (fun ρ w hw => by go_simp; first | done | with_reducible rfl) ?_
      simp only [Act.put, List.setIfInBounds_toArray, List.set_cons_zero, List.set_cons_succ, Nat.reduceAdd]
      refine kept_end (fun ρ w7 hF => ?_)
      replace x4 := x4.below hF.below
      replace hb := bto hb hF.below
      clear hF CX x7
      have v0 := x4.c0
      have v1 := x4.c1
      have v2 := x4.f0
      have v3 := x4.f1
      go_wp2
      have hy := x4.set (.string ⟨#[]⟩) (.string ⟨#[]⟩)
      have d0 := hy.c0
      have d1 := hy.c1
      refine bodyPost_ret (v := .tuple #[.agg #[.string ⟨#[]⟩, .string ⟨#[]⟩], .int .i64 Pe]) (by simp [results, Tryz.results105, go_sem, d0, d1]) rfl ?_
      exact ⟨by rw [HV.out]; rfl, below_set2 hb (Nat.le_refl _) _ _⟩

end Go.Proofs.YtgnppdkeiihlfaaGreatDoor
namespace Go.Proofs.YtgnppdkeiihlfaaGreatDoor
open Go.RowKit Num
/-- what a test says, and what follows from it -/
def GEnd (G : Bool → Prop) (w : World) (e : Ending) (w' : World) : Prop := ∃ b, e = .returned (.bool b) ∧ G b ∧ Below w.heap.size w w'
theorem gend {G : Bool → Prop} {w w' : World} {b : Bool} (h : G b) (hb : Below w.heap.size w w') : GEnd G w (.returned (.bool b)) w' := ⟨b, rfl, h, hb⟩
/-- amounts that the statements examine -/
structure MF (w : World) (A : Option Addr) (ts : List Mon) (n c : Nat) : Prop where
  len : ts.length = n
  cap : n ≤ c
  sz : n ≤ 6 ∨ 15 ≤ n ∧ n ≤ 18
  str : ∀ t ∈ ts, t.cur.length ≤ 8 ∧ t.amt.length ≤ 13
  mem : MonAt w A ts
theorem MF.below {w w' : World} {A : Option Addr} {ts : List Mon} {n c : Nat} (h : MF w A ts n c) (hb : Below w.heap.size w w') : MF w' A ts n c := ⟨h.len, h.cap, h.sz, h.str, h.mem.below hb⟩
set_option maxHeartbeats 4000000 in
set_option maxRecDepth 100000 in
theorem rGreatT (A : Option Addr) (ts : List Cur) (n c : Nat) (w : World) (hn : ts.length = n) (hc : n ≤ c) (hn2 : n ≤ 9223372036854775807) (h : CurAt w A ts) :
    Calls Tryz.prog 43 #[.slice A n c] w (GEnd (fun b => b = false → TL w A ts n c) w) := by
  have HI := Lib.hid h
  have hn1 : ts.length ≤ n := by omega
  have hn3 : n ≤ ts.length := by omega
  have HN := Lib.hid hn
  clear h hn
  go_enter Tryz.func43, Tryz.ntmps43
  go_wp2_with fail
  go_loopw [3] (fun iv wr => ∃ k : Nat, k ≤ n ∧ k ≤ 24 ∧ iv = .int .i64 (k : Int) ∧ Hid (∀ i t, i < k → ts[i]? = some t → t.code.length ≤ 8) ∧ Below w.heap.size w wr) (fun iv _ => n - (intOf iv).toNat)
  case atStart => exact ⟨0, Nat.zero_le _, Nat.zero_le _, rfl, fun i t hi => absurd hi (Nat.not_lt_zero _), Below.refl _ _⟩
  case round =>
    obtain ⟨k, hk, hk24, rfl, HK, hb⟩ := hrel
    by_cases hlt : k < n ∧ k < 24
    · obtain ⟨hlt, h24⟩ := hlt
      have e0 : decide (k < 24) = true := decide_eq_true h24
      have e00 : decide ((k : Int) < 24) = true := decide_eq_true (by omega)
      have e01 : decide (k < n) = true := decide_eq_true hlt
      have e02 : decide ((k : Int) < (n : Int)) = true := decide_eq_true (by omega)
      obtain ⟨t, ht⟩ : ∃ t, ts[k]? = some t := ⟨_, List.getElem?_eq_getElem (by omega)⟩
      obtain ⟨b, o, rfl, hbs, p0, p1⟩ := (HI.out.below hb) k t ht
      have HT := Lib.hid ht
      clear ht
      by_cases g2 : 8 < t.code.length
      · have e1 : decide (8 < t.code.length) = true := decide_eq_true g2
        have e2 : decide ((8 : Int) < (t.code.length : Int)) = true := decide_eq_true (by omega)
        clear g2
        go_wp2
        go_ret
        exact gend (fun h => by cases h) hb
      have e1 : decide (8 < t.code.length) = false := decide_eq_false g2
      have e2 : decide ((8 : Int) < (t.code.length : Int)) = false := decide_eq_false (by omega)
      have HK2 : Hid (∀ i t, i < k + 1 → ts[i]? = some t → t.code.length ≤ 8) := fun i x hi hx => by
        by_cases hik : i < k
        · exact HK.out i x hik hx
        · obtain rfl : i = k := by omega
          have := HT.out
          rw [hx] at this
          injection this with this
          subst this
          omega
      clear g2 HK HT
      go_wp2
      go_roundw
      case rel => exact ⟨k + 1, by omega, by omega, by go_num, HK2.out, hb⟩
      case measure => simp [intOf]; omega
    · have HS : Hid (n ≤ 24 → ∀ t ∈ ts, t.code.length ≤ 1000) := fun h t ht => by
        obtain ⟨i, hi⟩ := List.mem_iff_getElem?.1 ht
        exact Nat.le_trans (HK.out i t (by have := (List.getElem?_eq_some_iff.1 hi).1; omega) hi) (by decide)
      clear HK
      by_cases hlt1 : k < n
      · have h24 : ¬ k < 24 := fun h => hlt ⟨hlt1, h⟩
        have e0 : decide (k < 24) = false := decide_eq_false h24
        have e00 : decide ((k : Int) < 24) = false := decide_eq_false (by omega)
        have e01 : decide (k < n) = true := decide_eq_true hlt1
        have e02 : decide ((k : Int) < (n : Int)) = true := decide_eq_true (by omega)
        have e5 : decide (18 < n) = true := decide_eq_true (by omega)
        have e6 : decide ((18 : Int) < (n : Int)) = true := decide_eq_true (by omega)
        clear hlt
        go_wp2
        go_ret
        exact gend (fun h => by cases h) hb
      have e01 : decide (k < n) = false := decide_eq_false hlt1
      have e02 : decide ((k : Int) < (n : Int)) = false := decide_eq_false (by omega)
      clear hlt
      by_cases h18 : 18 < n
      · have e5 : decide (18 < n) = true := decide_eq_true (by omega)
        have e6 : decide ((18 : Int) < (n : Int)) = true := decide_eq_true (by omega)
        go_wp2
        go_ret
        exact gend (fun h => by cases h) hb
      have e5 : decide (18 < n) = false := decide_eq_false (by omega)
      have e6 : decide ((18 : Int) < (n : Int)) = false := decide_eq_false (by omega)
      go_wp2
      go_ret
      exact gend (fun _ => ⟨HN.out, hc, by omega, HS.out (by omega), HI.out⟩) hb
/-- a list of amounts as a slice in memory -/
structure MRow where
  A : Option Addr
  ts : List Mon
  n : Nat
  c : Nat
structure MRow.At (r : MRow) (w : World) : Prop where
  len : r.ts.length = r.n
  cap : r.n ≤ r.c
  top : r.n ≤ 9223372036854775807
  mem : MonAt w r.A r.ts
def MRow.v (r : MRow) : Value := .slice r.A r.n r.c
theorem MRow.At.below {r : MRow} {w w' : World} (h : r.At w) (hb : Below w.heap.size w w') : r.At w' := ⟨h.len, h.cap, h.top, h.mem.below hb⟩
def RowAt (w : World) (A : Option Addr) (rs : List MRow) : Prop := ∀ (i : Nat) (r : MRow), rs[i]? = some r → ∃ b o, A = some ⟨b, o, none⟩ ∧ b < w.heap.size ∧ w.cell? ⟨b, o + i, none⟩ = some r.v
theorem RowAt.below {w w' : World} {A : Option Addr} {rs : List MRow} (h : RowAt w A rs) (hb : Below w.heap.size w w') : RowAt w' A rs := fun i t ht => by
  obtain ⟨b, o, hA, hl, h0⟩ := h i t ht
  exact ⟨b, o, hA, Nat.lt_of_lt_of_le hl hb.size, (hb.cell (p := ⟨b, _, none⟩) hl).trans h0⟩
def exT : List Cur := [⟨[85, 83, 68], 2⟩, ⟨[74, 80, 89], 0⟩]
set_option maxHeartbeats 2000000 in
set_option maxRecDepth 100000 in
theorem lexample (w : World) : Calls Tryz.prog 104 #[] w fun e w' => ∃ B, e = .returned (.slice (some ⟨B, 0, none⟩) 2 2) ∧ TL w' (some ⟨B, 0, none⟩) exT 2 2 ∧ Below w.heap.size w w' := by
  have hb := below_alloc w (.cells #[.string ⟨#[85, 83, 68]⟩, .int .i64 2, .string ⟨#[74, 80, 89]⟩, .int .i64 0] 64)
  go_enter Tryz.func104, Tryz.ntmps104
  go_wp2
  go_ret
  refine ⟨w.heap.size, rfl, ⟨rfl, by decide, by decide, by decide, fun i t ht => ?_⟩, hb⟩
  have hi := (List.getElem?_eq_some_iff.1 ht).1
  have hi : i = 0 ∨ i = 1 := by simp [exT] at hi; omega
  rcases hi with rfl | rfl <;> (simp [exT] at ht; subst ht; exact ⟨w.heap.size, 0, rfl, by simp, by simp [go_sem], by simp [go_sem]⟩)

end Go.Proofs.YtgnppdkeiihlfaaGreatDoor
namespace Go.Proofs.YtgnppdkeiihlfaaGreatDoor
open Go.RowKit Num
theorem max4 {P : Program} (ts : Array TypeId) (t : TypeId) (w : World) : (Builtin.max_ ts t #[.int .i64 0, .int .i64 0, .int .i64 0, .int .i64 0]).run P w = .ok (.int .i64 0) w := by
  simp [Builtin.max_, Builtin.max2]
deriving instance DecidableEq for Mon
theorem aw_t1 : textV exT ⟨[85, 83, 68], [45, 49, 50, 51, 52]⟩ = ([45, 49, 50, 46, 51, 52, 32, 85, 83, 68], 0) := by decide +kernel
theorem aw_t2 : textV exT ⟨[74, 80, 89], [53]⟩ = ([53, 32, 74, 80, 89], 0) := by decide +kernel
theorem aw_p1 : mParse exT [48, 46, 53, 48, 48, 32, 85, 83, 68] = (⟨[85, 83, 68], [53, 48]⟩, 0) := by decide +kernel
theorem aw_p2 : mParse exT [48, 46, 48, 48, 53, 32, 85, 83, 68] = (noM, 22) := by decide +kernel
theorem aw_s1 : sumV [⟨[69, 85, 82], [53]⟩, ⟨[85, 83, 68], [45, 51]⟩] [⟨[74, 80, 89], [55]⟩, ⟨[85, 83, 68], [51]⟩] = ([⟨[69, 85, 82], [53]⟩, ⟨[74, 80, 89], [55]⟩], 0) := by decide +kernel
theorem two_at {w w' : World} {a b c d : List UInt8} (hw : w' = w.alloc (.cells #[.string ⟨a.toArray⟩, .string ⟨b.toArray⟩, .string ⟨c.toArray⟩, .string ⟨d.toArray⟩] 48)) : MonAt w' (some ⟨w.heap.size, 0, none⟩) [⟨a, b⟩, ⟨c, d⟩] := fun i t ht => by
  have hi := (List.getElem?_eq_some_iff.1 ht).1
  have hi : i = 0 ∨ i = 1 := by simp at hi; omega
  rw [hw]
  rcases hi with rfl | rfl <;> (simp at ht; subst ht; exact ⟨w.heap.size, 0, rfl, by simp, by simp [go_sem], by simp [go_sem]⟩)
set_option maxHeartbeats 8000000 in
set_option maxRecDepth 100000 in
theorem wAwake5 : Ret 44 #[] (.bool true) := fun w hG => by
  have hb := Below.refl w.heap.size w
  go_enter Tryz.func44, Tryz.ntmps44
  go_wp2_with fail
  refine (lexample w).mono ?_
  rintro e w1 ⟨B1, rfl, hT1, hb1⟩
  replace hb := bto hb hb1
  have C1 := mText _ exT 2 2 ⟨[85, 83, 68], [45, 49, 50, 51, 52]⟩ w1 (hG.below hb) hT1 (by decide) (by decide)
  rw [aw_t1] at C1
  clear hb1 hT1
  go_wp2_with fail
  refine C1.mono ?_
  rintro e w2 ⟨rfl, hb2⟩
  replace hb := bto hb hb2
  clear hb2 C1
  go_wp2_with fail
  refine (lexample w2).mono ?_
  rintro e w3 ⟨B3, rfl, hT3, hb3⟩
  replace hb := bto hb hb3
  have C3 := mText _ exT 2 2 ⟨[74, 80, 89], [53]⟩ w3 (hG.below hb) hT3 (by decide) (by decide)
  rw [aw_t2] at C3
  clear hb3 hT3
  go_wp2_with fail
  refine C3.mono ?_
  rintro e w4 ⟨rfl, hb4⟩
  replace hb := bto hb hb4
  clear hb4 C3
  go_wp2_with fail
  refine (lexample w4).mono ?_
  rintro e w5 ⟨B5, rfl, hT5, hb5⟩
  replace hb := bto hb hb5
  have C5 := mParseW _ exT 2 2 [48, 46, 53, 48, 48, 32, 85, 83, 68] w5 (hG.below hb) hT5 (by decide) (by decide)
  rw [aw_p1] at C5
  clear hb5 hT5
  go_wp2_with fail
  refine C5.mono ?_
  rintro e w6 ⟨rfl, hb6⟩
  replace hb := bto hb hb6
  have hbA := below_alloc w6 (.cells #[.string ⟨#[85, 83, 68]⟩, .string ⟨#[53, 48]⟩] 48)
  have x5 := FBox.new w6 (.string ⟨#[85, 83, 68]⟩) (.string ⟨#[53, 48]⟩) 48
  replace hb := bto hb hbA
  clear hb6 C5 hbA
  unfold pmV
  go_wp2_with fail
  refine (lexample _).mono ?_
  rintro e w7 ⟨B7, rfl, hT7, hb7⟩
  replace hb := bto hb hb7
  replace x5 := x5.below hb7
  have C7 := mParseW _ exT 2 2 [48, 46, 48, 48, 53, 32, 85, 83, 68] w7 (hG.below hb) hT7 (by decide) (by decide)
  rw [aw_p2] at C7
  clear hb7 hT7
  go_wp2_with fail
  refine C7.mono ?_
  rintro e w8 ⟨rfl, hb8⟩
  replace hb := bto hb hb8
  replace x5 := x5.below hb8
  have hbA := below_alloc w8 (.cells #[.string ⟨#[]⟩, .string ⟨#[]⟩] 48)
  have x7 := FBox.new w8 (.string ⟨#[]⟩) (.string ⟨#[]⟩) 48
  replace hb := bto hb hbA
  replace x5 := x5.below hbA
  clear hb8 C7 hbA
  unfold pmV noM
  go_wp2_with fail
  generalize hwa : w8.alloc (.cells #[.string ⟨#[]⟩, .string ⟨#[]⟩] 48) = wa at *
  have hsz : w8.heap.size + 1 = wa.heap.size := by rw [← hwa]; simp
  rw [hsz]
  have hb1 := below_alloc wa (.cells #[.string ⟨#[69, 85, 82]⟩, .string ⟨#[53]⟩, .string ⟨#[85, 83, 68]⟩, .string ⟨#[45, 51]⟩] 48)
  have hX := two_at (a := [69, 85, 82]) (b := [53]) (c := [85, 83, 68]) (d := [45, 51]) (w := wa) rfl
  generalize hwb : wa.alloc (.cells #[.string ⟨#[69, 85, 82]⟩, .string ⟨#[53]⟩, .string ⟨#[85, 83, 68]⟩, .string ⟨#[45, 51]⟩] 48) = wb at *
  have hsb : wa.heap.size + 1 = wb.heap.size := by rw [← hwb]; simp
  rw [hsb]
  have hb2 := below_alloc wb (.cells #[.string ⟨#[74, 80, 89]⟩, .string ⟨#[55]⟩, .string ⟨#[85, 83, 68]⟩, .string ⟨#[51]⟩] 48)
  have hY := two_at (a := [74, 80, 89]) (b := [55]) (c := [85, 83, 68]) (d := [51]) (w := wb) rfl
  generalize hwc : wb.alloc (.cells #[.string ⟨#[74, 80, 89]⟩, .string ⟨#[55]⟩, .string ⟨#[85, 83, 68]⟩, .string ⟨#[51]⟩] 48) = wc at *
  clear hwc hwb hwa hsz hsb
  have hb3 := bto hb1 hb2
  replace hb := bto hb hb3
  replace x5 := x5.below hb3
  replace x7 := x7.below hb3
  have CS := mSum _ _ [⟨[69, 85, 82], [53]⟩, ⟨[85, 83, 68], [45, 51]⟩] [⟨[74, 80, 89], [55]⟩, ⟨[85, 83, 68], [51]⟩] 2 2 2 2 wc (hG.below hb) ⟨rfl, by decide, by decide, hX.below hb2⟩ (by decide) ⟨rfl, by decide, by decide, hY⟩ (by decide)
  rw [aw_s1] at CS
  clear hb1 hb2 hb3 hX hY
  refine CS.mono ?_
  rintro e w9 ⟨B9, m9, c9, rfl, hm, hc9, hM9, hb9⟩
  replace hb := bto hb hb9
  replace x5 := x5.below hb9
  replace x7 := x7.below hb9
  clear hb9 CS
  subst hm
  have hmx := fun (ts : Array TypeId) (t : TypeId) (w : World) => max4 (P := Tryz.prog) ts t w
  have q0 := x5.c0
  have q1 := x5.c1
  have q2 := x7.c0
  have q3 := x7.c1
  go_wp2_with fail
  have hb1 := below_alloc w9 (.cells #[.string ⟨#[69, 85, 82]⟩, .string ⟨#[53]⟩, .string ⟨#[74, 80, 89]⟩, .string ⟨#[55]⟩] 48)
  have hS := two_at (a := [69, 85, 82]) (b := [53]) (c := [74, 80, 89]) (d := [55]) (w := w9) rfl
  have CE := eqMs _ _ [⟨[69, 85, 82], [53]⟩, ⟨[74, 80, 89], [55]⟩] [⟨[69, 85, 82], [53]⟩, ⟨[74, 80, 89], [55]⟩] 2 2 c9 2 _ rfl rfl (by decide) (by decide) (hM9.below hb1) hS
  rw [sameMs_self] at CE
  replace hb := bto hb hb1
  refine CE.mono ?_
  rintro e w10 ⟨rfl, hb10⟩
  replace hb := bto hb hb10
  clear hb10 CE hb1 hS hM9
  go_wp2
  go_ret
  exact ⟨rfl, hb⟩

end Go.Proofs.YtgnppdkeiihlfaaGreatDoor
namespace Go.Proofs.YtgnppdkeiihlfaaGreatDoor
open Go.RowKit Num
theorem zero_one (cs : Array Value) : (Builtin.zeroCells cs 1).toList = cs.toList := by
  unfold Builtin.zeroCells
  rw [Nat.one_mul]
  apply List.ext_getElem
  · simp
  · intro i h1 h2
    have hi : i < cs.size := by simpa using h2
    simp [Nat.mod_eq_of_lt hi, hi]
theorem run_clear_one {P : Program} (w : World) (t e ty : TypeId) (z : Value) (ht : P.underlying t = some (.slice e)) (hv : ∀ w, (zeroValue e).run P w = .ok z w) (h1 : ∀ u ∈ z.cells.toList, u.oneCell' = true) (b o c : Nat)
    (hc : ∀ j, j < z.cells.size → (w.cell? ⟨b, o + j, none⟩).isSome = true) (hf : ∀ j, j < z.cells.size → w.frozen? ⟨b, o + j, none⟩ = false) :
    (Builtin.clear_ #[t] ty #[.slice (some ⟨b, o, none⟩) 1 c]).run P w = .ok (.tuple #[]) (w.setCells b o z.cells.toList) := by
  have hst := run_storeCells_cells (P := P) b o z.cells.toList 0 w (by simpa using hc) (by simpa using hf) h1
  simp only [Nat.add_zero] at hst
  simp [Builtin.clear_, run_underlying ht, hv, zero_one, hst]
theorem setCells_blk (b : Nat) {t : TypeId} : ∀ (vs : List Value) (o : Nat) (w : World) (cur : Array Value), w.heap[b]? = some (.cells cur t (0, 0)) → o + vs.length ≤ cur.size →
    ∃ cur', (w.setCells b o vs).heap[b]? = some (.cells cur' t (0, 0)) ∧ cur'.size = cur.size
  | [], o, w, cur, h, _ => ⟨cur, h, rfl⟩
  | v :: r, o, w, cur, h, hl => by
    have h1 : (w.setCell ⟨b, o, none⟩ v).heap[b]? = some (.cells (cur.setIfInBounds o v) t (0, 0)) := by
      obtain ⟨hlt, hk⟩ := Array.getElem?_eq_some_iff.1 h
      show (w.heap.modify b _)[b]? = _
      rw [Array.getElem?_eq_getElem (by rw [Array.size_modify]; exact hlt), Array.getElem_modify_self, hk]
      simp
    obtain ⟨cur', e1, e2⟩ := setCells_blk b r (o + 1) _ _ h1 (by simp at hl ⊢; omega)
    exact ⟨cur', e1, by rw [e2]; simp⟩
end Go.Proofs.YtgnppdkeiihlfaaGreatDoor
