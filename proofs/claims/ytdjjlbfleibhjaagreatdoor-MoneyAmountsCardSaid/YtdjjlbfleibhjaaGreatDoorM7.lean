/- Texts put together: Nb Nc Nd Nf Opm. -/
import Derived.Test.YtdjjlbfleibhjaaGreatDoorM6
import Derived.Deep.Slices
import Derived.Deep.Fields
import Derived.OpenShut
import Derived.Lib.SmallJoins
import Derived.ChangeSame
namespace Go.Proofs.YtdjjlbfleibhjaaGreatDoor
open Go.RowKit Num
def parseP (s : List UInt8) (p : Nat) : List UInt8 × Int := if decOk s = true then (if (decQ s * tenQ p).den = 1 then (canon (decQ s * tenQ p).num, 0) else ([], 22)) else ([], 3)
theorem parseV_P (s : List UInt8) (p : Nat) : ParseV s p = .tuple #[.string ⟨(parseP s p).1.toArray⟩, .int .i64 (parseP s p).2] := by
  unfold parseP
  by_cases h : decOk s = true
  · rw [if_pos h]
    by_cases h1 : (decQ s * tenQ p).den = 1
    · rw [if_pos h1, parseV_1 h h1]
    · rw [if_neg h1, parseV_0 h h1]
  · rw [if_neg h, parseV_f (not_true_b h)]
def noM : Mon := ⟨[], []⟩
/-- what Parse returns -/
def mParse (ts : List Cur) (s : List UInt8) : Mon × Int :=
  if ¬ tabE ts = 0 then (noM, 1) else if 65536 < s.length then (noM, 4) else if s.length < 4 then (noM, 3) else if ¬ s[s.length - 4]? = some 32 then (noM, 3) else if ¬ codeB (s.drop (s.length - 3)) = true then (noM, 3) else
    match findT ts (s.drop (s.length - 3)) with
    | none => (noM, 12)
    | some c => if (parseP (s.take (s.length - 4)) c.places.toNat).2 = 0 then (⟨s.drop (s.length - 3), (parseP (s.take (s.length - 4)) c.places.toNat).1⟩, 0) else (noM, (parseP (s.take (s.length - 4)) c.places.toNat).2)
def pmV (r : Mon × Int) : Value := .tuple #[.agg #[.string ⟨r.1.cur.toArray⟩, .string ⟨r.1.amt.toArray⟩], .int .i64 r.2]

set_option maxHeartbeats 4000000 in
set_option maxRecDepth 100000 in
theorem mParseW (A : Option Addr) (ts : List Cur) (n c : Nat) (s : List UInt8) (w : World) (hG : Glob w) (hT : TL w A ts n c) (hs : s.length ≤ 1000 ∨ 65536 < s.length) (hs2 : s.length ≤ 9223372036854775807) :
    Calls Tryz.prog 23 #[.slice A n c, .string ⟨s.toArray⟩] w fun e w' => e = .returned (pmV (mParse ts s)) ∧ Below w.heap.size w w' := by
  have CB := Lib.hid (mTableB hG hT)
  have hb := below_alloc w (.cells #[.string ⟨#[]⟩, .string ⟨#[]⟩] 25)
  have x4 := FBox.new w (.string ⟨#[]⟩) (.string ⟨#[]⟩) 25
  have HTL := Lib.hid hT
  clear hT
  by_cases g0 : tabE ts = 0
  rotate_left
  · have HV : Hid (mParse ts s = (noM, 1)) := if_pos g0
    have e1 : (tabE ts != 0) = true := bneq' (intbne g0)
    generalize tabE ts = E at *
    clear g0
    go_enter Tryz.func23, Tryz.ntmps23
    go_wp2_with fail
    ((with_reducible refine (CB.out.of hG hb).mono ?_); rintro e w2 ⟨rfl, hb2⟩)
    replace x4 := x4.below hb2
    replace hb := bto hb hb2
    clear hb2
    clear CB
    have v0 := x4.c0
    have v1 := x4.c1
    have v2 := x4.f0
    have v3 := x4.f1
    go_wp2
    have hy := x4.set (.string ⟨#[]⟩) (.string ⟨#[]⟩)
    have d0 := hy.c0
    have d1 := hy.c1
    refine bodyPost_ret (v := .tuple #[.agg #[.string ⟨#[]⟩, .string ⟨#[]⟩], .int .i64 1]) (by simp [results, Tryz.results23, go_sem, d0, d1]) rfl ?_
    exact ⟨by rw [HV.out]; rfl, below_set2 hb (Nat.le_refl _) _ _⟩
  have HV0 := Lib.hid (show mParse ts s = _ from if_neg (fun h => h g0))
  have HTt := Lib.hid (fun code c (h : findT ts code = some c) => (And.intro ((tabE_ok g0).2 c (findT_some h).1).2 (findT_some h).2))
  rw [g0] at CB
  clear g0
  by_cases gl : 65536 < s.length
  · have HV : Hid (mParse ts s = (noM, 4)) := HV0.out.trans (if_pos gl)
    have e1 : decide (65536 < s.length) = true := decide_eq_true gl
    have e2 : decide ((65536 : Int) < (s.length : Int)) = true := decide_eq_true (by omega)
    clear HV0
    go_enter Tryz.func23, Tryz.ntmps23
    go_wp2_with fail
    ((with_reducible refine (CB.out.of hG hb).mono ?_); rintro e w2 ⟨rfl, hb2⟩)
    replace x4 := x4.below hb2
    replace hb := bto hb hb2
    clear hb2
    clear CB
    have v0 := x4.c0
    have v1 := x4.c1
    have v2 := x4.f0
    have v3 := x4.f1
    go_wp2
    have hy := x4.set (.string ⟨#[]⟩) (.string ⟨#[]⟩)
    have d0 := hy.c0
    have d1 := hy.c1
    refine bodyPost_ret (v := .tuple #[.agg #[.string ⟨#[]⟩, .string ⟨#[]⟩], .int .i64 4]) (by simp [results, Tryz.results23, go_sem, d0, d1]) rfl ?_
    exact ⟨by rw [HV.out]; rfl, below_set2 hb (Nat.le_refl _) _ _⟩
  have hK : s.length ≤ 1000 := by omega
  have HV1 := Lib.hid (HV0.out.trans (if_neg gl))
  have e1 : decide (65536 < s.length) = false := decide_eq_false gl
  have e2 : decide ((65536 : Int) < (s.length : Int)) = false := decide_eq_false (by omega)
  have hwp : IntKind.i64.wrap ((s.length : Int) - 4) = (s.length : Int) - 4 := Go.IntWalk.i64_in _ (by omega)
  clear HV0
  by_cases g4 : s.length < 4
  · have HV : Hid (mParse ts s = (noM, 3)) := HV1.out.trans (if_pos g4)
    have e3 : decide ((s.length : Int) - 4 < 0) = true := decide_eq_true (by omega)
    have e4 : decide ((s.length : Int) < 4) = true := decide_eq_true (by omega)
    have e5 : decide (s.length < 4) = true := decide_eq_true g4
    clear HV1
    go_enter Tryz.func23, Tryz.ntmps23
    go_wp2_with fail
    ((with_reducible refine (CB.out.of hG hb).mono ?_); rintro e w2 ⟨rfl, hb2⟩)
    replace x4 := x4.below hb2
    replace hb := bto hb hb2
    clear hb2
    clear CB
    have v0 := x4.c0
    have v1 := x4.c1
    have v2 := x4.f0
    have v3 := x4.f1
    go_wp2
    have hy := x4.set (.string ⟨#[]⟩) (.string ⟨#[]⟩)
    have d0 := hy.c0
    have d1 := hy.c1
    refine bodyPost_ret (v := .tuple #[.agg #[.string ⟨#[]⟩, .string ⟨#[]⟩], .int .i64 3]) (by simp [results, Tryz.results23, go_sem, d0, d1]) rfl ?_
    exact ⟨by rw [HV.out]; rfl, below_set2 hb (Nat.le_refl _) _ _⟩
  have HV2 := Lib.hid (HV1.out.trans (if_neg g4))
  obtain ⟨k, hk⟩ : ∃ k, s.length = k + 4 := ⟨s.length - 4, by omega⟩
  obtain ⟨x, hx⟩ : ∃ x, s[k]? = some x := ⟨_, List.getElem?_eq_getElem (by omega)⟩
  obtain ⟨C, hC⟩ : ∃ C, C = s.drop (k + 1) := ⟨_, rfl⟩
  obtain ⟨T, hT⟩ : ∃ T, T = s.take k := ⟨_, rfl⟩
  have hv2 := HV2.out
  rw [show s.length - 4 = k by omega, show s.length - 3 = k + 1 by omega, hx, ← hC, ← hT] at hv2
  have HV3 := Lib.hid hv2
  have hCl : C.length = 3 := by rw [hC, List.length_drop]; omega
  have hTl : T.length = k := by rw [hT, List.length_take]; omega
  have hkk : k < (⟨s.toArray⟩ : ByteArray).size := by show k < s.toArray.size; simp; omega
  have hx2 : ∀ hp, (⟨s.toArray⟩ : ByteArray)[k]'hp = x := fun hp => by
    have h1 : s[k]? = some ((⟨s.toArray⟩ : ByteArray)[k]'hp) := List.getElem?_eq_getElem (by omega)
    rw [hx] at h1; injection h1 with h1; exact h1.symm
  have k5 : (⟨s.toArray⟩ : ByteArray).extract (k + 1) (k + 4) = ⟨C.toArray⟩ := by
    rw [extract_list, List.take_of_length_le (by omega), ← hC]
  have k6 : (⟨s.toArray⟩ : ByteArray).extract 0 k = ⟨T.toArray⟩ := by rw [extract_list, List.drop_zero, ← hT]
  have HCl := Lib.hid hCl
  have HTl := Lib.hid hTl
  have hwp1 : IntKind.i64.wrap ((k : Int) + 1) = (k : Int) + 1 := Go.IntWalk.i64_in _ (by omega)
  have hwp2 : IntKind.i64.wrap (k : Int) = (k : Int) := Go.IntWalk.i64_in _ (by omega)
  have kn1 : ((k : Int) + 1).toNat = k + 1 := by omega
  have kz1 : (0 : Int) ≤ (k : Int) + 1 := by omega
  have kz2 : (k : Int) + 1 ≤ (k : Int) + 4 := by omega
  have kz3 : (k : Int) ≤ (k : Int) + 4 := by omega
  have kz4 : (k : Int) < (k : Int) + 4 := by omega
  have kz5 : ¬ ((k : Int) < 0) := by omega
  clear hwp HV1 HV2 hv2 hC hT hCl hTl g4 gl e1 e2 hx
  have e1 : decide ((65536 : Int) < (k : Int) + 4) = false := decide_eq_false (by omega)
  have e2 : decide (65536 < k + 4) = false := decide_eq_false (by omega)
  have hk4 : k + 4 ≤ 1000 := by omega
  by_cases gx : x = 32
  rotate_left
  · have HV : Hid (mParse ts s = (noM, 3)) := HV3.out.trans (if_pos (fun h => gx (by injection h)))
    have e3 : ((x.toNat : Int) == 32) = false := by rw [beq_eq_false_iff_ne]; exact fun h => gx (UInt8.toNat_inj.1 (by show x.toNat = 32; omega))
    have e4 := bneq' e3
    clear gx HV3
    go_enter Tryz.func23, Tryz.ntmps23
    go_wp2_with fail
    ((with_reducible refine (CB.out.of hG hb).mono ?_); rintro e w2 ⟨rfl, hb2⟩)
    replace x4 := x4.below hb2
    replace hb := bto hb hb2
    clear hb2
    clear CB
    have v0 := x4.c0
    have v1 := x4.c1
    have v2 := x4.f0
    have v3 := x4.f1
    go_wp2
    have hy := x4.set (.string ⟨#[]⟩) (.string ⟨#[]⟩)
    have d0 := hy.c0
    have d1 := hy.c1
    refine bodyPost_ret (v := .tuple #[.agg #[.string ⟨#[]⟩, .string ⟨#[]⟩], .int .i64 3]) (by simp [results, Tryz.results23, go_sem, d0, d1]) rfl ?_
    exact ⟨by rw [HV.out]; rfl, below_set2 hb (Nat.le_refl _) _ _⟩
  have e3 : ((x.toNat : Int) == 32) = true := by rw [gx]; rfl
  have e4 := bneq e3
  have HV4 := Lib.hid (HV3.out.trans (if_neg (fun h => h (by rw [gx]))))
  have CD := Lib.hid (mCode (l := C) (by rw [HCl.out]; omega))
  clear gx HV3
  by_cases gd : codeB C = true
  rotate_left
  · have HV : Hid (mParse ts s = (noM, 3)) := HV4.out.trans (if_pos gd)
    have e5 := not_true_b gd
    rw [e5] at CD
    clear gd e5 HV4
    go_enter Tryz.func23, Tryz.ntmps23
    go_wp2_with fail
    ((with_reducible refine (CB.out.of hG hb).mono ?_); rintro e w2 ⟨rfl, hb2⟩)
    replace x4 := x4.below hb2
    replace hb := bto hb hb2
    clear hb2
    clear CB
    go_wp2_with fail
    ((with_reducible refine (CD.out.of hG hb).mono ?_); rintro e w3 ⟨rfl, hb3⟩)
    replace x4 := x4.below hb3
    replace hb := bto hb hb3
    clear hb3
    clear CD
    have v0 := x4.c0
    have v1 := x4.c1
    have v2 := x4.f0
    have v3 := x4.f1
    go_wp2
    have hy := x4.set (.string ⟨#[]⟩) (.string ⟨#[]⟩)
    have d0 := hy.c0
    have d1 := hy.c1
    refine bodyPost_ret (v := .tuple #[.agg #[.string ⟨#[]⟩, .string ⟨#[]⟩], .int .i64 3]) (by simp [results, Tryz.results23, go_sem, d0, d1]) rfl ?_
    exact ⟨by rw [HV.out]; rfl, below_set2 hb (Nat.le_refl _) _ _⟩
  have HV5 := Lib.hid (HV4.out.trans (if_neg (fun h => h gd)))
  rw [gd] at CD
  clear gd HV4
  have CFn := Lib.hid (mFindB HTL.out C)
  have HT := Lib.hid (HTt.out C)
  clear HTt
  generalize findT ts C = fo at *
  cases fo with
  | none =>
    have HV : Hid (mParse ts s = (noM, 12)) := HV5.out
    have cfq : RetB w 32 #[.slice A n c, .string ⟨C.toArray⟩] (.tuple #[.agg #[.string ⟨#[]⟩, .int .i64 0], .bool false]) := CFn.out
    have CFq := Lib.hid cfq
    clear HV5 HT CFn cfq
    go_enter Tryz.func23, Tryz.ntmps23
    go_wp2_with fail
    ((with_reducible refine (CB.out.of hG hb).mono ?_); rintro e w2 ⟨rfl, hb2⟩)
    replace x4 := x4.below hb2
    replace hb := bto hb hb2
    clear hb2
    clear CB
    go_wp2_with fail
    ((with_reducible refine (CD.out.of hG hb).mono ?_); rintro e w3 ⟨rfl, hb3⟩)
    replace x4 := x4.below hb3
    replace hb := bto hb hb3
    clear hb3
    clear CD
    go_wp2_with fail
    ((with_reducible refine (CFq.out.of hG hb).mono ?_); rintro e w4 ⟨rfl, hb4⟩)
    replace x4 := x4.below hb4
    replace hb := bto hb hb4
    clear hb4
    have hbA := below_alloc w4 (.cells #[.string ⟨#[]⟩, .int .i64 0] 47)
    have x7 := FBox.new w4 (.string ⟨#[]⟩) (.int .i64 0) 47
    replace x4 := x4.below hbA
    replace hb := bto hb hbA
    clear hbA
    clear CFq x7
    have v0 := x4.c0
    have v1 := x4.c1
    have v2 := x4.f0
    have v3 := x4.f1
    go_wp2
    have hy := x4.set (.string ⟨#[]⟩) (.string ⟨#[]⟩)
    have d0 := hy.c0
    have d1 := hy.c1
    refine bodyPost_ret (v := .tuple #[.agg #[.string ⟨#[]⟩, .string ⟨#[]⟩], .int .i64 12]) (by simp [results, Tryz.results23, go_sem, d0, d1]) rfl ?_
    exact ⟨by rw [HV.out]; rfl, below_set2 hb (Nat.le_refl _) _ _⟩
  | some t =>
    obtain ⟨⟨ht0, ht12⟩, htc⟩ := HT.out t rfl
    obtain ⟨p, hp⟩ : ∃ p : Nat, p = t.places.toNat := ⟨_, rfl⟩
    have hp2 : t.places = (p : Int) := by omega
    have hp12 : p ≤ 12 := by omega
    have cfq : RetB w 32 #[.slice A n c, .string ⟨C.toArray⟩] (.tuple #[.agg #[.string ⟨t.code.toArray⟩, .int .i64 t.places], .bool true]) := CFn.out
    rw [hp2, htc] at cfq
    have CFq := Lib.hid cfq
    obtain ⟨Pa, hPa⟩ : ∃ x, x = (parseP T p).1 := ⟨_, rfl⟩
    obtain ⟨Pe, hPe⟩ : ∃ x, x = (parseP T p).2 := ⟨_, rfl⟩
    have HV6 : Hid (mParse ts s = if Pe = 0 then (⟨C, Pa⟩, 0) else (noM, Pe)) := by rw [hPa, hPe, hp]; exact HV5.out
    have cx := dParse (s := T) (by rw [HTl.out]; omega) (p := p) hp12
    rw [parseV_P, ← hPa, ← hPe] at cx
    have CX := Lib.hid cx
    clear HV5 HT ht0 ht12 htc hp hp2 CFn cfq cx hPa hPe
    by_cases gp : Pe = 0
    · subst gp
      have HV : Hid (mParse ts s = (⟨C, Pa⟩, 0)) := HV6.out
      clear HV6
      go_enter Tryz.func23, Tryz.ntmps23
      go_wp2_with fail
      ((with_reducible refine (CB.out.of hG hb).mono ?_); rintro e w2 ⟨rfl, hb2⟩)
      replace x4 := x4.below hb2
      replace hb := bto hb hb2
      clear hb2
      clear CB
      go_wp2_with fail
      ((with_reducible refine (CD.out.of hG hb).mono ?_); rintro e w3 ⟨rfl, hb3⟩)
      replace x4 := x4.below hb3
      replace hb := bto hb hb3
      clear hb3
      clear CD
      go_wp2_with fail
      ((with_reducible refine (CFq.out.of hG hb).mono ?_); rintro e w4 ⟨rfl, hb4⟩)
      replace x4 := x4.below hb4
      replace hb := bto hb hb4
      clear hb4
      have hbA := below_alloc w4 (.cells #[.string ⟨C.toArray⟩, .int .i64 (p : Int)] 47)
      have x7 := FBox.new w4 (.string ⟨C.toArray⟩) (.int .i64 (p : Int)) 47
      replace x4 := x4.below hbA
      replace hb := bto hb hbA
      clear hbA
      clear CFq
      go_wp2_with fail
      refine wp_region_kept (by kernel_rfl) (by kernel_rfl) ?_
      refine kept_val _ (fun _ => rfl) (fun ρ w hw => by go_simp; first | done | with_reducible rfl) ?_
      simp only [Act.put, List.setIfInBounds_toArray, List.set_cons_zero, List.set_cons_succ, Nat.reduceAdd]
      refine kept_val _ (fun _ => rfl) (fun ρ w hw => by go_simp; first | done | with_reducible rfl) ?_
      simp only [Act.put, List.setIfInBounds_toArray, List.set_cons_zero, List.set_cons_succ, Nat.reduceAdd]
      refine kept_val _ (fun _ => rfl) (fun ρ w hw => by go_simp; first | done | with_reducible rfl) ?_
      simp only [Act.put, List.setIfInBounds_toArray, List.set_cons_zero, List.set_cons_succ, Nat.reduceAdd]
      refine kept_val _ (fun _ => rfl) (fun ρ w hw => by go_simp; first | done | with_reducible rfl) ?_
      simp only [Act.put, List.setIfInBounds_toArray, List.set_cons_zero, List.set_cons_succ, Nat.reduceAdd]
      refine kept_val _ (fun _ => rfl) (fun ρ w hw => by have q0 := (x7.below hw).c1; go_simp; first | done | with_reducible rfl) ?_
      simp only [Act.put, List.setIfInBounds_toArray, List.set_cons_zero, List.set_cons_succ, Nat.reduceAdd]
      refine kept_call _ _ _ (fun _ => rfl) (fun ρ w hw => by go_simp; first | done | with_reducible rfl) (fun w hw => CX.out.of (hG) (bto hb hw)) ?_
      simp only [Act.put, List.setIfInBounds_toArray, List.set_cons_zero, List.set_cons_succ, Nat.reduceAdd]
      refine kept_val _ (fun _ => rfl) (fun ρ w hw => by go_simp; first | done | with_reducible rfl) ?_
      simp only [Act.put, List.setIfInBounds_toArray, List.set_cons_zero, List.set_cons_succ, Nat.reduceAdd]
      refine kept_val _ (fun _ => rfl) (fun ρ w hw => by go_simp; first | done | with_reducible rfl) ?_
      simp only [Act.put, List.setIfInBounds_toArray, List.set_cons_zero, List.set_cons_succ, Nat.reduceAdd]
      refine kept_val _ (fun _ => rfl) (fun ρ w hw => by go_simp; first | done | with_reducible rfl) ?_
      simp only [Act.put, List.setIfInBounds_toArray, List.set_cons_zero, List.set_cons_succ, Nat.reduceAdd]
      refine kept_val _ (fun _ => rfl) (fun ρ w hw => by go_simp; first | done | with_reducible rfl) ?_
      simp only [Act.put, List.setIfInBounds_toArray, List.set_cons_zero, List.set_cons_succ, Nat.reduceAdd]
      refine kept_val _ (fun _ => rfl) (fun ρ w hw => by go_simp; first | done | with_reducible rfl) ?_
      simp only [Act.put, List.setIfInBounds_toArray, List.set_cons_zero, List.set_cons_succ, Nat.reduceAdd]
      refine kept_end (fun ρ w7 hF => ?_)
      replace x4 := x4.below hF.below
      replace x7 := x7.below hF.below
      replace hb := bto hb hF.below
      clear hF CX
      have q7 := x7.c0
      have v0 := x4.c0
      have v1 := x4.c1
      have v2 := x4.f0
      have v3 := x4.f1
      go_wp2
      have hy := x4.set (.string ⟨(C).toArray⟩) (.string ⟨(Pa).toArray⟩)
      have d0 := hy.c0
      have d1 := hy.c1
      refine bodyPost_ret (v := .tuple #[.agg #[.string ⟨(C).toArray⟩, .string ⟨(Pa).toArray⟩], .int .i64 0]) (by simp [results, Tryz.results23, go_sem, d0, d1]) rfl ?_
      exact ⟨by rw [HV.out]; rfl, below_set2 hb (Nat.le_refl _) _ _⟩
    · have HV : Hid (mParse ts s = (noM, Pe)) := HV6.out.trans (if_neg gp)
      have e5 : (Pe == 0) = false := intbne gp
      have e6 := bneq' e5
      clear HV6 gp
      go_enter Tryz.func23, Tryz.ntmps23
      go_wp2_with fail
      ((with_reducible refine (CB.out.of hG hb).mono ?_); rintro e w2 ⟨rfl, hb2⟩)
      replace x4 := x4.below hb2
      replace hb := bto hb hb2
      clear hb2
      clear CB
      go_wp2_with fail
      ((with_reducible refine (CD.out.of hG hb).mono ?_); rintro e w3 ⟨rfl, hb3⟩)
      replace x4 := x4.below hb3
      replace hb := bto hb hb3
      clear hb3
      clear CD
      go_wp2_with fail
      ((with_reducible refine (CFq.out.of hG hb).mono ?_); rintro e w4 ⟨rfl, hb4⟩)
      replace x4 := x4.below hb4
      replace hb := bto hb hb4
      clear hb4
      have hbA := below_alloc w4 (.cells #[.string ⟨C.toArray⟩, .int .i64 (p : Int)] 47)
      have x7 := FBox.new w4 (.string ⟨C.toArray⟩) (.int .i64 (p : Int)) 47
      replace x4 := x4.below hbA
      replace hb := bto hb hbA
      clear hbA
      clear CFq
      go_wp2_with fail
      refine wp_region_kept (by kernel_rfl) (by kernel_rfl) ?_
      refine kept_val _ (fun _ => rfl) (fun ρ w hw => by go_simp; first | done | with_reducible rfl) ?_
      simp only [Act.put, List.setIfInBounds_toArray, List.set_cons_zero, List.set_cons_succ, Nat.reduceAdd]
      refine kept_val _ (fun _ => rfl) (fun ρ w hw => by go_simp; first | done | with_reducible rfl) ?_
      simp only [Act.put, List.setIfInBounds_toArray, List.set_cons_zero, List.set_cons_succ, Nat.reduceAdd]
      refine kept_val _ (fun _ => rfl) (fun ρ w hw => by go_simp; first | done | with_reducible rfl) ?_
      simp only [Act.put, List.setIfInBounds_toArray, List.set_cons_zero, List.set_cons_succ, Nat.reduceAdd]
      refine kept_val _ (fun _ => rfl) (fun ρ w hw => by go_simp; first | done | with_reducible rfl) ?_
      simp only [Act.put, List.setIfInBounds_toArray, List.set_cons_zero, List.set_cons_succ, Nat.reduceAdd]
      refine kept_val _ (fun _ => rfl) (fun ρ w hw => by have q0 := (x7.below hw).c1; go_simp; first | done | with_reducible rfl) ?_
      simp only [Act.put, List.setIfInBounds_toArray, List.set_cons_zero, List.set_cons_succ, Nat.reduceAdd]
      refine kept_call _ _ _ (fun _ => rfl) (fun ρ w hw => by go_simp; first | done | with_reducible rfl) (fun w hw => CX.out.of (hG) (bto hb hw)) ?_
      simp only [Act.put, List.setIfInBounds_toArray, List.set_cons_zero, List.set_cons_succ, Nat.reduceAdd]
      refine kept_val _ (fun _ => rfl) (fun ρ w hw => by go_simp; first | done | with_reducible rfl) ?_
      simp only [Act.put, List.setIfInBounds_toArray, List.set_cons_zero, List.set_cons_succ, Nat.reduceAdd]
      refine kept_val _ (fun _ => rfl) (fun ρ w hw => by go_simp; first | done | with_reducible rfl) ?_
      simp only [Act.put, List.setIfInBounds_toArray, List.set_cons_zero, List.set_cons_succ, Nat.reduceAdd]
      refine kept_val _ (fun _ => rfl) (fun ρ w hw => by go_simp; first | done | with_reducible rfl) ?_
      simp only [Act.put, List.setIfInBounds_toArray, List.set_cons_zero, List.set_cons_succ, Nat.reduceAdd]
      refine kept_val _ (fun _ => rfl) (fun ρ w hw => by go_simp; first | done | with_reducible rfl) ?_
      simp only [Act.put, List.setIfInBounds_toArray, List.set_cons_zero, List.set_cons_succ, Nat.reduceAdd]
      refine kept_val _ (fun _ => rfl) (fun ρ w hw => by go_simp; first | done | with_reducible rfl) ?_
      simp only [Act.put, List.setIfInBounds_toArray, List.set_cons_zero, List.set_cons_succ, Nat.reduceAdd]
      refine kept_end (fun ρ w7 hF => ?_)
      replace x4 := x4.below hF.below
      replace hb := bto hb hF.below
      clear hF CX x7
      have v0 := x4.c0
      have v1 := x4.c1
      have v2 := x4.f0
      have v3 := x4.f1
      go_wp2
      have hy := x4.set (.string ⟨#[]⟩) (.string ⟨#[]⟩)
      have d0 := hy.c0
      have d1 := hy.c1
      refine bodyPost_ret (v := .tuple #[.agg #[.string ⟨#[]⟩, .string ⟨#[]⟩], .int .i64 Pe]) (by simp [results, Tryz.results23, go_sem, d0, d1]) rfl ?_
      exact ⟨by rw [HV.out]; rfl, below_set2 hb (Nat.le_refl _) _ _⟩

set_option maxHeartbeats 4000000 in
set_option maxRecDepth 100000 in
theorem jParseW (A : Option Addr) (ts : List Cur) (n c : Nat) (s : List UInt8) (w : World) (hG : Glob w) (hT : TL w A ts n c) (hs : s.length ≤ 60 ∨ 65536 < s.length) (hs2 : s.length ≤ 9223372036854775807) :
    Calls Tryz.prog 24 #[.slice A n c, .string ⟨s.toArray⟩] w fun e w' => e = .returned (pmV (mParse ts s)) ∧ Below w.heap.size w w' := by
  have CB := Lib.hid (jTableB hG hT)
  have hb := below_alloc w (.cells #[.string ⟨#[]⟩, .string ⟨#[]⟩] 25)
  have x4 := FBox.new w (.string ⟨#[]⟩) (.string ⟨#[]⟩) 25
  have HTL := Lib.hid hT
  clear hT
  by_cases g0 : tabE ts = 0
  rotate_left
  · have HV : Hid (mParse ts s = (noM, 1)) := if_pos g0
    have e1 : (tabE ts != 0) = true := bneq' (intbne g0)
    generalize tabE ts = E at *
    clear g0
    go_enter Tryz.func24, Tryz.ntmps24
    go_wp2_with fail
    ((with_reducible refine (CB.out.of hG hb).mono ?_); rintro e w2 ⟨rfl, hb2⟩)
    replace x4 := x4.below hb2
    replace hb := bto hb hb2
    clear hb2
    clear CB
    have v0 := x4.c0
    have v1 := x4.c1
    have v2 := x4.f0
    have v3 := x4.f1
    go_wp2
    have hy := x4.set (.string ⟨#[]⟩) (.string ⟨#[]⟩)
    have d0 := hy.c0
    have d1 := hy.c1
    refine bodyPost_ret (v := .tuple #[.agg #[.string ⟨#[]⟩, .string ⟨#[]⟩], .int .i64 1]) (by simp [results, Tryz.results24, go_sem, d0, d1]) rfl ?_
    exact ⟨by rw [HV.out]; rfl, below_set2 hb (Nat.le_refl _) _ _⟩
  have HV0 := Lib.hid (show mParse ts s = _ from if_neg (fun h => h g0))
  have HTt := Lib.hid (fun code c (h : findT ts code = some c) => (And.intro ((tabE_ok g0).2 c (findT_some h).1).2 (findT_some h).2))
  rw [g0] at CB
  clear g0
  by_cases gl : 65536 < s.length
  · have HV : Hid (mParse ts s = (noM, 4)) := HV0.out.trans (if_pos gl)
    have e1 : decide (65536 < s.length) = true := decide_eq_true gl
    have e2 : decide ((65536 : Int) < (s.length : Int)) = true := decide_eq_true (by omega)
    clear HV0
    go_enter Tryz.func24, Tryz.ntmps24
    go_wp2_with fail
    ((with_reducible refine (CB.out.of hG hb).mono ?_); rintro e w2 ⟨rfl, hb2⟩)
    replace x4 := x4.below hb2
    replace hb := bto hb hb2
    clear hb2
    clear CB
    have v0 := x4.c0
    have v1 := x4.c1
    have v2 := x4.f0
    have v3 := x4.f1
    go_wp2
    have hy := x4.set (.string ⟨#[]⟩) (.string ⟨#[]⟩)
    have d0 := hy.c0
    have d1 := hy.c1
    refine bodyPost_ret (v := .tuple #[.agg #[.string ⟨#[]⟩, .string ⟨#[]⟩], .int .i64 4]) (by simp [results, Tryz.results24, go_sem, d0, d1]) rfl ?_
    exact ⟨by rw [HV.out]; rfl, below_set2 hb (Nat.le_refl _) _ _⟩
  have hK : s.length ≤ 60 := by omega
  have HV1 := Lib.hid (HV0.out.trans (if_neg gl))
  have e1 : decide (65536 < s.length) = false := decide_eq_false gl
  have e2 : decide ((65536 : Int) < (s.length : Int)) = false := decide_eq_false (by omega)
  have hwp : IntKind.i64.wrap ((s.length : Int) - 4) = (s.length : Int) - 4 := Go.IntWalk.i64_in _ (by omega)
  clear HV0
  by_cases g4 : s.length < 4
  · have HV : Hid (mParse ts s = (noM, 3)) := HV1.out.trans (if_pos g4)
    have e3 : decide ((s.length : Int) - 4 < 0) = true := decide_eq_true (by omega)
    have e4 : decide ((s.length : Int) < 4) = true := decide_eq_true (by omega)
    have e5 : decide (s.length < 4) = true := decide_eq_true g4
    clear HV1
    go_enter Tryz.func24, Tryz.ntmps24
    go_wp2_with fail
    ((with_reducible refine (CB.out.of hG hb).mono ?_); rintro e w2 ⟨rfl, hb2⟩)
    replace x4 := x4.below hb2
    replace hb := bto hb hb2
    clear hb2
    clear CB
    have v0 := x4.c0
    have v1 := x4.c1
    have v2 := x4.f0
    have v3 := x4.f1
    go_wp2
    have hy := x4.set (.string ⟨#[]⟩) (.string ⟨#[]⟩)
    have d0 := hy.c0
    have d1 := hy.c1
    refine bodyPost_ret (v := .tuple #[.agg #[.string ⟨#[]⟩, .string ⟨#[]⟩], .int .i64 3]) (by simp [results, Tryz.results24, go_sem, d0, d1]) rfl ?_
    exact ⟨by rw [HV.out]; rfl, below_set2 hb (Nat.le_refl _) _ _⟩
  have HV2 := Lib.hid (HV1.out.trans (if_neg g4))
  obtain ⟨k, hk⟩ : ∃ k, s.length = k + 4 := ⟨s.length - 4, by omega⟩
  obtain ⟨x, hx⟩ : ∃ x, s[k]? = some x := ⟨_, List.getElem?_eq_getElem (by omega)⟩
  obtain ⟨C, hC⟩ : ∃ C, C = s.drop (k + 1) := ⟨_, rfl⟩
  obtain ⟨T, hT⟩ : ∃ T, T = s.take k := ⟨_, rfl⟩
  have hv2 := HV2.out
  rw [show s.length - 4 = k by omega, show s.length - 3 = k + 1 by omega, hx, ← hC, ← hT] at hv2
  have HV3 := Lib.hid hv2
  have hCl : C.length = 3 := by rw [hC, List.length_drop]; omega
  have hTl : T.length = k := by rw [hT, List.length_take]; omega
  have hkk : k < (⟨s.toArray⟩ : ByteArray).size := by show k < s.toArray.size; simp; omega
  have hx2 : ∀ hp, (⟨s.toArray⟩ : ByteArray)[k]'hp = x := fun hp => by
    have h1 : s[k]? = some ((⟨s.toArray⟩ : ByteArray)[k]'hp) := List.getElem?_eq_getElem (by omega)
    rw [hx] at h1; injection h1 with h1; exact h1.symm
  have k5 : (⟨s.toArray⟩ : ByteArray).extract (k + 1) (k + 4) = ⟨C.toArray⟩ := by
    rw [extract_list, List.take_of_length_le (by omega), ← hC]
  have k6 : (⟨s.toArray⟩ : ByteArray).extract 0 k = ⟨T.toArray⟩ := by rw [extract_list, List.drop_zero, ← hT]
  have HCl := Lib.hid hCl
  have HTl := Lib.hid hTl
  have hwp1 : IntKind.i64.wrap ((k : Int) + 1) = (k : Int) + 1 := Go.IntWalk.i64_in _ (by omega)
  have hwp2 : IntKind.i64.wrap (k : Int) = (k : Int) := Go.IntWalk.i64_in _ (by omega)
  have kn1 : ((k : Int) + 1).toNat = k + 1 := by omega
  have kz1 : (0 : Int) ≤ (k : Int) + 1 := by omega
  have kz2 : (k : Int) + 1 ≤ (k : Int) + 4 := by omega
  have kz3 : (k : Int) ≤ (k : Int) + 4 := by omega
  have kz4 : (k : Int) < (k : Int) + 4 := by omega
  have kz5 : ¬ ((k : Int) < 0) := by omega
  clear hwp HV1 HV2 hv2 hC hT hCl hTl g4 gl e1 e2 hx
  have e1 : decide ((65536 : Int) < (k : Int) + 4) = false := decide_eq_false (by omega)
  have e2 : decide (65536 < k + 4) = false := decide_eq_false (by omega)
  have hk4 : k + 4 ≤ 60 := by omega
  by_cases gx : x = 32
  rotate_left
  · have HV : Hid (mParse ts s = (noM, 3)) := HV3.out.trans (if_pos (fun h => gx (by injection h)))
    have e3 : ((x.toNat : Int) == 32) = false := by rw [beq_eq_false_iff_ne]; exact fun h => gx (UInt8.toNat_inj.1 (by show x.toNat = 32; omega))
    have e4 := bneq' e3
    clear gx HV3
    go_enter Tryz.func24, Tryz.ntmps24
    go_wp2_with fail
    ((with_reducible refine (CB.out.of hG hb).mono ?_); rintro e w2 ⟨rfl, hb2⟩)
    replace x4 := x4.below hb2
    replace hb := bto hb hb2
    clear hb2
    clear CB
    have v0 := x4.c0
    have v1 := x4.c1
    have v2 := x4.f0
    have v3 := x4.f1
    go_wp2
    have hy := x4.set (.string ⟨#[]⟩) (.string ⟨#[]⟩)
    have d0 := hy.c0
    have d1 := hy.c1
    refine bodyPost_ret (v := .tuple #[.agg #[.string ⟨#[]⟩, .string ⟨#[]⟩], .int .i64 3]) (by simp [results, Tryz.results24, go_sem, d0, d1]) rfl ?_
    exact ⟨by rw [HV.out]; rfl, below_set2 hb (Nat.le_refl _) _ _⟩
  have e3 : ((x.toNat : Int) == 32) = true := by rw [gx]; rfl
  have e4 := bneq e3
  have HV4 := Lib.hid (HV3.out.trans (if_neg (fun h => h (by rw [gx]))))
  have CD := Lib.hid (jCode5L (l := C) (by rw [HCl.out]; omega))
  clear gx HV3
  by_cases gd : codeB C = true
  rotate_left
  · have HV : Hid (mParse ts s = (noM, 3)) := HV4.out.trans (if_pos gd)
    have e5 := not_true_b gd
    rw [e5] at CD
    clear gd e5 HV4
    go_enter Tryz.func24, Tryz.ntmps24
    go_wp2_with fail
    ((with_reducible refine (CB.out.of hG hb).mono ?_); rintro e w2 ⟨rfl, hb2⟩)
    replace x4 := x4.below hb2
    replace hb := bto hb hb2
    clear hb2
    clear CB
    go_wp2_with fail
    ((with_reducible refine (CD.out.of hG hb).mono ?_); rintro e w3 ⟨rfl, hb3⟩)
    replace x4 := x4.below hb3
    replace hb := bto hb hb3
    clear hb3
    clear CD
    have v0 := x4.c0
    have v1 := x4.c1
    have v2 := x4.f0
    have v3 := x4.f1
    go_wp2
    have hy := x4.set (.string ⟨#[]⟩) (.string ⟨#[]⟩)
    have d0 := hy.c0
    have d1 := hy.c1
    refine bodyPost_ret (v := .tuple #[.agg #[.string ⟨#[]⟩, .string ⟨#[]⟩], .int .i64 3]) (by simp [results, Tryz.results24, go_sem, d0, d1]) rfl ?_
    exact ⟨by rw [HV.out]; rfl, below_set2 hb (Nat.le_refl _) _ _⟩
  have HV5 := Lib.hid (HV4.out.trans (if_neg (fun h => h gd)))
  rw [gd] at CD
  clear gd HV4
  have CFn := Lib.hid (jFindB HTL.out C)
  have HT := Lib.hid (HTt.out C)
  clear HTt
  generalize findT ts C = fo at *
  cases fo with
  | none =>
    have HV : Hid (mParse ts s = (noM, 12)) := HV5.out
    have cfq : RetB w 76 #[.slice A n c, .string ⟨C.toArray⟩] (.tuple #[.agg #[.string ⟨#[]⟩, .int .i64 0], .bool false]) := CFn.out
    have CFq := Lib.hid cfq
    clear HV5 HT CFn cfq
    go_enter Tryz.func24, Tryz.ntmps24
    go_wp2_with fail
    ((with_reducible refine (CB.out.of hG hb).mono ?_); rintro e w2 ⟨rfl, hb2⟩)
    replace x4 := x4.below hb2
    replace hb := bto hb hb2
    clear hb2
    clear CB
    go_wp2_with fail
    ((with_reducible refine (CD.out.of hG hb).mono ?_); rintro e w3 ⟨rfl, hb3⟩)
    replace x4 := x4.below hb3
    replace hb := bto hb hb3
    clear hb3
    clear CD
    go_wp2_with fail
    ((with_reducible refine (CFq.out.of hG hb).mono ?_); rintro e w4 ⟨rfl, hb4⟩)
    replace x4 := x4.below hb4
    replace hb := bto hb hb4
    clear hb4
    have hbA := below_alloc w4 (.cells #[.string ⟨#[]⟩, .int .i64 0] 47)
    have x7 := FBox.new w4 (.string ⟨#[]⟩) (.int .i64 0) 47
    replace x4 := x4.below hbA
    replace hb := bto hb hbA
    clear hbA
    clear CFq x7
    have v0 := x4.c0
    have v1 := x4.c1
    have v2 := x4.f0
    have v3 := x4.f1
    go_wp2
    have hy := x4.set (.string ⟨#[]⟩) (.string ⟨#[]⟩)
    have d0 := hy.c0
    have d1 := hy.c1
    refine bodyPost_ret (v := .tuple #[.agg #[.string ⟨#[]⟩, .string ⟨#[]⟩], .int .i64 12]) (by simp [results, Tryz.results24, go_sem, d0, d1]) rfl ?_
    exact ⟨by rw [HV.out]; rfl, below_set2 hb (Nat.le_refl _) _ _⟩
  | some t =>
    obtain ⟨⟨ht0, ht12⟩, htc⟩ := HT.out t rfl
    obtain ⟨p, hp⟩ : ∃ p : Nat, p = t.places.toNat := ⟨_, rfl⟩
    have hp2 : t.places = (p : Int) := by omega
    have hp12 : p ≤ 12 := by omega
    have cfq : RetB w 76 #[.slice A n c, .string ⟨C.toArray⟩] (.tuple #[.agg #[.string ⟨t.code.toArray⟩, .int .i64 t.places], .bool true]) := CFn.out
    rw [hp2, htc] at cfq
    have CFq := Lib.hid cfq
    obtain ⟨Pa, hPa⟩ : ∃ x, x = (parseP T p).1 := ⟨_, rfl⟩
    obtain ⟨Pe, hPe⟩ : ∃ x, x = (parseP T p).2 := ⟨_, rfl⟩
    have HV6 : Hid (mParse ts s = if Pe = 0 then (⟨C, Pa⟩, 0) else (noM, Pe)) := by rw [hPa, hPe, hp]; exact HV5.out
    have cx := eParse (s := T) (by rw [HTl.out]; omega) (p := p) hp12
    rw [parseV_P, ← hPa, ← hPe] at cx
    have CX := Lib.hid cx
    clear HV5 HT ht0 ht12 htc hp hp2 CFn cfq cx hPa hPe
    by_cases gp : Pe = 0
    · subst gp
      have HV : Hid (mParse ts s = (⟨C, Pa⟩, 0)) := HV6.out
      clear HV6
      go_enter Tryz.func24, Tryz.ntmps24
      go_wp2_with fail
      ((with_reducible refine (CB.out.of hG hb).mono ?_); rintro e w2 ⟨rfl, hb2⟩)
      replace x4 := x4.below hb2
      replace hb := bto hb hb2
      clear hb2
      clear CB
      go_wp2_with fail
      ((with_reducible refine (CD.out.of hG hb).mono ?_); rintro e w3 ⟨rfl, hb3⟩)
      replace x4 := x4.below hb3
      replace hb := bto hb hb3
      clear hb3
      clear CD
      go_wp2_with fail
      ((with_reducible refine (CFq.out.of hG hb).mono ?_); rintro e w4 ⟨rfl, hb4⟩)
      replace x4 := x4.below hb4
      replace hb := bto hb hb4
      clear hb4
      have hbA := below_alloc w4 (.cells #[.string ⟨C.toArray⟩, .int .i64 (p : Int)] 47)
      have x7 := FBox.new w4 (.string ⟨C.toArray⟩) (.int .i64 (p : Int)) 47
      replace x4 := x4.below hbA
      replace hb := bto hb hbA
      clear hbA
      clear CFq
      go_wp2_with fail
      refine wp_region_kept (by kernel_rfl) (by kernel_rfl) ?_
      refine kept_val _ (fun _ => rfl) (fun ρ w hw => by go_simp; first | done | with_reducible rfl) ?_
      simp only [Act.put, List.setIfInBounds_toArray, List.set_cons_zero, List.set_cons_succ, Nat.reduceAdd]
      refine kept_val _ (fun _ => rfl) (fun ρ w hw => by go_simp; first | done | with_reducible rfl) ?_
      simp only [Act.put, List.setIfInBounds_toArray, List.set_cons_zero, List.set_cons_succ, Nat.reduceAdd]
      refine kept_val _ (fun _ => rfl) (fun ρ w hw => by go_simp; first | done | with_reducible rfl) ?_
      simp only [Act.put, List.setIfInBounds_toArray, List.set_cons_zero, List.set_cons_succ, Nat.reduceAdd]
      refine kept_val _ (fun _ => rfl) (fun ρ w hw => by go_simp; first | done | with_reducible rfl) ?_
      simp only [Act.put, List.setIfInBounds_toArray, List.set_cons_zero, List.set_cons_succ, Nat.reduceAdd]
      refine kept_val _ (fun _ => rfl) (fun ρ w hw => by have q0 := (x7.below hw).c1; go_simp; first | done | with_reducible rfl) ?_
      simp only [Act.put, List.setIfInBounds_toArray, List.set_cons_zero, List.set_cons_succ, Nat.reduceAdd]
      refine kept_call _ _ _ (fun _ => rfl) (fun ρ w hw => by go_simp; first | done | with_reducible rfl) (fun w hw => CX.out.of (hG) (bto hb hw)) ?_
      simp only [Act.put, List.setIfInBounds_toArray, List.set_cons_zero, List.set_cons_succ, Nat.reduceAdd]
      refine kept_val _ (fun _ => rfl) (fun ρ w hw => by go_simp; first | done | with_reducible rfl) ?_
      simp only [Act.put, List.setIfInBounds_toArray, List.set_cons_zero, List.set_cons_succ, Nat.reduceAdd]
      refine kept_val _ (fun _ => rfl) (fun ρ w hw => by go_simp; first | done | with_reducible rfl) ?_
      simp only [Act.put, List.setIfInBounds_toArray, List.set_cons_zero, List.set_cons_succ, Nat.reduceAdd]
      refine kept_val _ (fun _ => rfl) (fun ρ w hw => by go_simp; first | done | with_reducible rfl) ?_
      simp only [Act.put, List.setIfInBounds_toArray, List.set_cons_zero, List.set_cons_succ, Nat.reduceAdd]
      refine kept_val _ (fun _ => rfl) (fun ρ w hw => by go_simp; first | done | with_reducible rfl) ?_
      simp only [Act.put, List.setIfInBounds_toArray, List.set_cons_zero, List.set_cons_succ, Nat.reduceAdd]
      refine kept_val _ (fun _ => rfl) (fun ρ w hw => by go_simp; first | done | with_reducible rfl) ?_
      simp only [Act.put, List.setIfInBounds_toArray, List.set_cons_zero, List.set_cons_succ, Nat.reduceAdd]
      refine kept_end (fun ρ w7 hF => ?_)
      replace x4 := x4.below hF.below
      replace x7 := x7.below hF.below
      replace hb := bto hb hF.below
      clear hF CX
      have q7 := x7.c0
      have v0 := x4.c0
      have v1 := x4.c1
      have v2 := x4.f0
      have v3 := x4.f1
      go_wp2
      have hy := x4.set (.string ⟨(C).toArray⟩) (.string ⟨(Pa).toArray⟩)
      have d0 := hy.c0
      have d1 := hy.c1
      refine bodyPost_ret (v := .tuple #[.agg #[.string ⟨(C).toArray⟩, .string ⟨(Pa).toArray⟩], .int .i64 0]) (by simp [results, Tryz.results24, go_sem, d0, d1]) rfl ?_
      exact ⟨by rw [HV.out]; rfl, below_set2 hb (Nat.le_refl _) _ _⟩
    · have HV : Hid (mParse ts s = (noM, Pe)) := HV6.out.trans (if_neg gp)
      have e5 : (Pe == 0) = false := intbne gp
      have e6 := bneq' e5
      clear HV6 gp
      go_enter Tryz.func24, Tryz.ntmps24
      go_wp2_with fail
      ((with_reducible refine (CB.out.of hG hb).mono ?_); rintro e w2 ⟨rfl, hb2⟩)
      replace x4 := x4.below hb2
      replace hb := bto hb hb2
      clear hb2
      clear CB
      go_wp2_with fail
      ((with_reducible refine (CD.out.of hG hb).mono ?_); rintro e w3 ⟨rfl, hb3⟩)
      replace x4 := x4.below hb3
      replace hb := bto hb hb3
      clear hb3
      clear CD
      go_wp2_with fail
      ((with_reducible refine (CFq.out.of hG hb).mono ?_); rintro e w4 ⟨rfl, hb4⟩)
      replace x4 := x4.below hb4
      replace hb := bto hb hb4
      clear hb4
      have hbA := below_alloc w4 (.cells #[.string ⟨C.toArray⟩, .int .i64 (p : Int)] 47)
      have x7 := FBox.new w4 (.string ⟨C.toArray⟩) (.int .i64 (p : Int)) 47
      replace x4 := x4.below hbA
      replace hb := bto hb hbA
      clear hbA
      clear CFq
      go_wp2_with fail
      refine wp_region_kept (by kernel_rfl) (by kernel_rfl) ?_
      refine kept_val _ (fun _ => rfl) (fun ρ w hw => by go_simp; first | done | with_reducible rfl) ?_
      simp only [Act.put, List.setIfInBounds_toArray, List.set_cons_zero, List.set_cons_succ, Nat.reduceAdd]
      refine kept_val _ (fun _ => rfl) (fun ρ w hw => by go_simp; first | done | with_reducible rfl) ?_
      simp only [Act.put, List.setIfInBounds_toArray, List.set_cons_zero, List.set_cons_succ, Nat.reduceAdd]
      refine kept_val _ (fun _ => rfl) (fun ρ w hw => by go_simp; first | done | with_reducible rfl) ?_
      simp only [Act.put, List.setIfInBounds_toArray, List.set_cons_zero, List.set_cons_succ, Nat.reduceAdd]
      refine kept_val _ (fun _ => rfl) (fun ρ w hw => by go_simp; first | done | with_reducible rfl) ?_
      simp only [Act.put, List.setIfInBounds_toArray, List.set_cons_zero, List.set_cons_succ, Nat.reduceAdd]
      refine kept_val _ (fun _ => rfl) (fun ρ w hw => by have q0 := (x7.below hw).c1; go_simp; first | done | with_reducible rfl) ?_
      simp only [Act.put, List.setIfInBounds_toArray, List.set_cons_zero, List.set_cons_succ, Nat.reduceAdd]
      refine kept_call _ _ _ (fun _ => rfl) (fun ρ w hw => by go_simp; first | done | with_reducible rfl) (fun w hw => CX.out.of (hG) (bto hb hw)) ?_
      simp only [Act.put, List.setIfInBounds_toArray, List.set_cons_zero, List.set_cons_succ, Nat.reduceAdd]
      refine kept_val _ (fun _ => rfl) (fun ρ w hw => by go_simp; first | done | with_reducible rfl) ?_
      simp only [Act.put, List.setIfInBounds_toArray, List.set_cons_zero, List.set_cons_succ, Nat.reduceAdd]
      refine kept_val _ (fun _ => rfl) (fun ρ w hw => by go_simp; first | done | with_reducible rfl) ?_
      simp only [Act.put, List.setIfInBounds_toArray, List.set_cons_zero, List.set_cons_succ, Nat.reduceAdd]
      refine kept_val _ (fun _ => rfl) (fun ρ w hw => by go_simp; first | done | with_reducible rfl) ?_
      simp only [Act.put, List.setIfInBounds_toArray, List.set_cons_zero, List.set_cons_succ, Nat.reduceAdd]
      refine kept_val _ (fun _ => rfl) (fun ρ w hw => by go_simp; first | done | with_reducible rfl) ?_
      simp only [Act.put, List.setIfInBounds_toArray, List.set_cons_zero, List.set_cons_succ, Nat.reduceAdd]
      refine kept_val _ (fun _ => rfl) (fun ρ w hw => by go_simp; first | done | with_reducible rfl) ?_
      simp only [Act.put, List.setIfInBounds_toArray, List.set_cons_zero, List.set_cons_succ, Nat.reduceAdd]
      refine kept_end (fun ρ w7 hF => ?_)
      replace x4 := x4.below hF.below
      replace hb := bto hb hF.below
      clear hF CX x7
      have v0 := x4.c0
      have v1 := x4.c1
      have v2 := x4.f0
      have v3 := x4.f1
      go_wp2
      have hy := x4.set (.string ⟨#[]⟩) (.string ⟨#[]⟩)
      have d0 := hy.c0
      have d1 := hy.c1
      refine bodyPost_ret (v := .tuple #[.agg #[.string ⟨#[]⟩, .string ⟨#[]⟩], .int .i64 Pe]) (by simp [results, Tryz.results24, go_sem, d0, d1]) rfl ?_
      exact ⟨by rw [HV.out]; rfl, below_set2 hb (Nat.le_refl _) _ _⟩

end Go.Proofs.YtdjjlbfleibhjaaGreatDoor
namespace Go.Proofs.YtdjjlbfleibhjaaGreatDoor
open Go.RowKit Num
/-- what a test says, and what follows from it -/
def GEnd (G : Bool → Prop) (w : World) (e : Ending) (w' : World) : Prop := ∃ b, e = .returned (.bool b) ∧ G b ∧ Below w.heap.size w w'
theorem gend {G : Bool → Prop} {w w' : World} {b : Bool} (h : G b) (hb : Below w.heap.size w w') : GEnd G w (.returned (.bool b)) w' := ⟨b, rfl, h, hb⟩
/-- amounts that the statements examine -/
structure MF (w : World) (A : Option Addr) (ts : List Mon) (n c : Nat) : Prop where
  len : ts.length = n
  cap : n ≤ c
  sz : n ≤ 6 ∨ 15 ≤ n ∧ n ≤ 18
  str : ∀ t ∈ ts, t.cur.length ≤ 8 ∧ t.amt.length ≤ 13
  mem : MonAt w A ts
theorem MF.ml {w : World} {A : Option Addr} {ts : List Mon} {n c : Nat} (h : MF w A ts n c) : ML w A ts n := ⟨h.len, by have := h.sz; omega, fun t ht => by have := h.str t ht; omega, h.mem⟩
theorem MF.below {w w' : World} {A : Option Addr} {ts : List Mon} {n c : Nat} (h : MF w A ts n c) (hb : Below w.heap.size w w') : MF w' A ts n c := ⟨h.len, h.cap, h.sz, h.str, h.mem.below hb⟩
set_option maxHeartbeats 4000000 in
set_option maxRecDepth 100000 in
theorem rGreatM (A : Option Addr) (ts : List Mon) (n c : Nat) (w : World) (hG : Glob w) (hn : ts.length = n) (hc : n ≤ c) (hn2 : n ≤ 9223372036854775807) (h : MonAt w A ts) :
    Calls Tryz.prog 84 #[.slice A n c] w (GEnd (fun b => b = false → MF w A ts n c) w) := by
  have HI := Lib.hid h
  have hn1 : ts.length ≤ n := by omega
  have hn3 : n ≤ ts.length := by omega
  have HN := Lib.hid hn
  clear h hn
  go_enter Tryz.func84, Tryz.ntmps84
  go_wp2_with fail
  go_loopw [3] (fun iv wr => ∃ k : Nat, k ≤ n ∧ k ≤ 24 ∧ iv = .int .i64 (k : Int) ∧ Hid (∀ i t, i < k → ts[i]? = some t → t.cur.length ≤ 8 ∧ t.amt.length ≤ 13) ∧ Below w.heap.size w wr) (fun iv _ => n - (intOf iv).toNat)
  case atStart => exact ⟨0, Nat.zero_le _, Nat.zero_le _, rfl, fun i t hi => absurd hi (Nat.not_lt_zero _), Below.refl _ _⟩
  case round =>
    obtain ⟨k, hk, hk24, rfl, HK, hb⟩ := hrel
    by_cases hlt : k < n ∧ k < 24
    · obtain ⟨hlt, h24⟩ := hlt
      have e0 : decide (k < 24) = true := decide_eq_true h24
      have e00 : decide ((k : Int) < 24) = true := decide_eq_true (by omega)
      have e01 : decide (k < n) = true := decide_eq_true hlt
      have e02 : decide ((k : Int) < (n : Int)) = true := decide_eq_true (by omega)
      obtain ⟨t, ht⟩ : ∃ t, ts[k]? = some t := ⟨_, List.getElem?_eq_getElem (by omega)⟩
      obtain ⟨b, o, rfl, hbs, p0, p1⟩ := (HI.out.below hb) k t ht
      have HT := Lib.hid ht
      clear ht
      by_cases g1 : 13 < t.amt.length
      · have C1 := Lib.hid (qLong (l := t.amt) (decide_eq_true g1))
        clear g1
        go_wp2_with fail
        ((with_reducible refine (C1.out.of hG hb).mono ?_); rintro e w2 ⟨rfl, hb2⟩)
        replace hb := bto hb hb2
        clear hb2 p1 p0
        go_wp2
        go_ret
        exact gend (fun h => by cases h) hb
      have C1 := Lib.hid (qLong (l := t.amt) (decide_eq_false g1))
      by_cases g2 : 8 < t.cur.length
      · have e1 : decide (8 < t.cur.length) = true := decide_eq_true g2
        have e2 : decide ((8 : Int) < (t.cur.length : Int)) = true := decide_eq_true (by omega)
        clear g1 g2
        go_wp2_with fail
        ((with_reducible refine (C1.out.of hG hb).mono ?_); rintro e w2 ⟨rfl, hb2⟩)
        replace p0 := (hb2.cell (p := ⟨b, o + k * 2, none⟩) hbs).trans p0
        replace hb := bto hb hb2
        clear hb2 p1
        go_wp2
        go_ret
        exact gend (fun h => by cases h) hb
      have e1 : decide (8 < t.cur.length) = false := decide_eq_false g2
      have e2 : decide ((8 : Int) < (t.cur.length : Int)) = false := decide_eq_false (by omega)
      have HK2 : Hid (∀ i t, i < k + 1 → ts[i]? = some t → t.cur.length ≤ 8 ∧ t.amt.length ≤ 13) := fun i x hi hx => by
        by_cases hik : i < k
        · exact HK.out i x hik hx
        · obtain rfl : i = k := by omega
          have := HT.out
          rw [hx] at this
          injection this with this
          subst this
          omega
      clear g1 g2 HK HT
      go_wp2_with fail
      ((with_reducible refine (C1.out.of hG hb).mono ?_); rintro e w2 ⟨rfl, hb2⟩)
      replace p0 := (hb2.cell (p := ⟨b, o + k * 2, none⟩) hbs).trans p0
      replace hb := bto hb hb2
      clear hb2 p1
      go_wp2
      go_roundw
      case rel => exact ⟨k + 1, by omega, by omega, by go_num, HK2.out, hb⟩
      case measure => simp [intOf]; omega
    · have HS : Hid (n ≤ 24 → ∀ t ∈ ts, t.cur.length ≤ 8 ∧ t.amt.length ≤ 13) := fun h t ht => by
        obtain ⟨i, hi⟩ := List.mem_iff_getElem?.1 ht
        exact HK.out i t (by have := (List.getElem?_eq_some_iff.1 hi).1; omega) hi
      clear HK
      by_cases hlt1 : k < n
      · have h24 : ¬ k < 24 := fun h => hlt ⟨hlt1, h⟩
        have e0 : decide (k < 24) = false := decide_eq_false h24
        have e00 : decide ((k : Int) < 24) = false := decide_eq_false (by omega)
        have e01 : decide (k < n) = true := decide_eq_true hlt1
        have e02 : decide ((k : Int) < (n : Int)) = true := decide_eq_true (by omega)
        have e1 : decide (6 < n) = true := decide_eq_true (by omega)
        have e2 : decide ((6 : Int) < (n : Int)) = true := decide_eq_true (by omega)
        have e3 : decide (n < 15) = false := decide_eq_false (by omega)
        have e4 : decide ((n : Int) < 15) = false := decide_eq_false (by omega)
        have e5 : decide (18 < n) = true := decide_eq_true (by omega)
        have e6 : decide ((18 : Int) < (n : Int)) = true := decide_eq_true (by omega)
        clear hlt
        go_wp2
        go_ret
        exact gend (fun h => by cases h) hb
      have e01 : decide (k < n) = false := decide_eq_false hlt1
      have e02 : decide ((k : Int) < (n : Int)) = false := decide_eq_false (by omega)
      clear hlt
      by_cases h6 : 6 < n
      · have e1 : decide (6 < n) = true := decide_eq_true (by omega)
        have e2 : decide ((6 : Int) < (n : Int)) = true := decide_eq_true (by omega)
        by_cases h15 : n < 15
        · have e3 : decide (n < 15) = true := decide_eq_true (by omega)
          have e4 : decide ((n : Int) < 15) = true := decide_eq_true (by omega)
          go_wp2
          go_ret
          exact gend (fun h => by cases h) hb
        have e3 : decide (n < 15) = false := decide_eq_false (by omega)
        have e4 : decide ((n : Int) < 15) = false := decide_eq_false (by omega)
        by_cases h18 : 18 < n
        · have e5 : decide (18 < n) = true := decide_eq_true (by omega)
          have e6 : decide ((18 : Int) < (n : Int)) = true := decide_eq_true (by omega)
          go_wp2
          go_ret
          exact gend (fun h => by cases h) hb
        have e5 : decide (18 < n) = false := decide_eq_false (by omega)
        have e6 : decide ((18 : Int) < (n : Int)) = false := decide_eq_false (by omega)
        go_wp2
        go_ret
        exact gend (fun _ => ⟨HN.out, hc, .inr ⟨by omega, by omega⟩, HS.out (by omega), HI.out⟩) hb
      have e1 : decide (6 < n) = false := decide_eq_false (by omega)
      have e2 : decide ((6 : Int) < (n : Int)) = false := decide_eq_false (by omega)
      have e5 : decide (18 < n) = false := decide_eq_false (by omega)
      have e6 : decide ((18 : Int) < (n : Int)) = false := decide_eq_false (by omega)
      go_wp2
      go_ret
      exact gend (fun _ => ⟨HN.out, hc, .inl (by omega), HS.out (by omega), HI.out⟩) hb
set_option maxHeartbeats 4000000 in
set_option maxRecDepth 100000 in
theorem rGreatT (A : Option Addr) (ts : List Cur) (n c : Nat) (w : World) (hn : ts.length = n) (hc : n ≤ c) (hn2 : n ≤ 9223372036854775807) (h : CurAt w A ts) :
    Calls Tryz.prog 18 #[.slice A n c] w (GEnd (fun b => b = false → TL w A ts n c) w) := by
  have HI := Lib.hid h
  have hn1 : ts.length ≤ n := by omega
  have hn3 : n ≤ ts.length := by omega
  have HN := Lib.hid hn
  clear h hn
  go_enter Tryz.func18, Tryz.ntmps18
  go_wp2_with fail
  go_loopw [3] (fun iv wr => ∃ k : Nat, k ≤ n ∧ k ≤ 24 ∧ iv = .int .i64 (k : Int) ∧ Hid (∀ i t, i < k → ts[i]? = some t → t.code.length ≤ 8) ∧ Below w.heap.size w wr) (fun iv _ => n - (intOf iv).toNat)
  case atStart => exact ⟨0, Nat.zero_le _, Nat.zero_le _, rfl, fun i t hi => absurd hi (Nat.not_lt_zero _), Below.refl _ _⟩
  case round =>
    obtain ⟨k, hk, hk24, rfl, HK, hb⟩ := hrel
    by_cases hlt : k < n ∧ k < 24
    · obtain ⟨hlt, h24⟩ := hlt
      have e0 : decide (k < 24) = true := decide_eq_true h24
      have e00 : decide ((k : Int) < 24) = true := decide_eq_true (by omega)
      have e01 : decide (k < n) = true := decide_eq_true hlt
      have e02 : decide ((k : Int) < (n : Int)) = true := decide_eq_true (by omega)
      obtain ⟨t, ht⟩ : ∃ t, ts[k]? = some t := ⟨_, List.getElem?_eq_getElem (by omega)⟩
      obtain ⟨b, o, rfl, hbs, p0, p1⟩ := (HI.out.below hb) k t ht
      have HT := Lib.hid ht
      clear ht
      by_cases g2 : 8 < t.code.length
      · have e1 : decide (8 < t.code.length) = true := decide_eq_true g2
        have e2 : decide ((8 : Int) < (t.code.length : Int)) = true := decide_eq_true (by omega)
        clear g2
        go_wp2
        go_ret
        exact gend (fun h => by cases h) hb
      have e1 : decide (8 < t.code.length) = false := decide_eq_false g2
      have e2 : decide ((8 : Int) < (t.code.length : Int)) = false := decide_eq_false (by omega)
      have HK2 : Hid (∀ i t, i < k + 1 → ts[i]? = some t → t.code.length ≤ 8) := fun i x hi hx => by
        by_cases hik : i < k
        · exact HK.out i x hik hx
        · obtain rfl : i = k := by omega
          have := HT.out
          rw [hx] at this
          injection this with this
          subst this
          omega
      clear g2 HK HT
      go_wp2
      go_roundw
      case rel => exact ⟨k + 1, by omega, by omega, by go_num, HK2.out, hb⟩
      case measure => simp [intOf]; omega
    · have HS : Hid (n ≤ 24 → ∀ t ∈ ts, t.code.length ≤ 1000) := fun h t ht => by
        obtain ⟨i, hi⟩ := List.mem_iff_getElem?.1 ht
        exact Nat.le_trans (HK.out i t (by have := (List.getElem?_eq_some_iff.1 hi).1; omega) hi) (by decide)
      clear HK
      by_cases hlt1 : k < n
      · have h24 : ¬ k < 24 := fun h => hlt ⟨hlt1, h⟩
        have e0 : decide (k < 24) = false := decide_eq_false h24
        have e00 : decide ((k : Int) < 24) = false := decide_eq_false (by omega)
        have e01 : decide (k < n) = true := decide_eq_true hlt1
        have e02 : decide ((k : Int) < (n : Int)) = true := decide_eq_true (by omega)
        have e5 : decide (18 < n) = true := decide_eq_true (by omega)
        have e6 : decide ((18 : Int) < (n : Int)) = true := decide_eq_true (by omega)
        clear hlt
        go_wp2
        go_ret
        exact gend (fun h => by cases h) hb
      have e01 : decide (k < n) = false := decide_eq_false hlt1
      have e02 : decide ((k : Int) < (n : Int)) = false := decide_eq_false (by omega)
      clear hlt
      by_cases h18 : 18 < n
      · have e5 : decide (18 < n) = true := decide_eq_true (by omega)
        have e6 : decide ((18 : Int) < (n : Int)) = true := decide_eq_true (by omega)
        go_wp2
        go_ret
        exact gend (fun h => by cases h) hb
      have e5 : decide (18 < n) = false := decide_eq_false (by omega)
      have e6 : decide ((18 : Int) < (n : Int)) = false := decide_eq_false (by omega)
      go_wp2
      go_ret
      exact gend (fun _ => ⟨HN.out, hc, by omega, HS.out (by omega), HI.out⟩) hb
/-- a list of amounts as a slice in memory -/
structure MRow where
  A : Option Addr
  ts : List Mon
  n : Nat
  c : Nat
structure MRow.At (r : MRow) (w : World) : Prop where
  len : r.ts.length = r.n
  cap : r.n ≤ r.c
  top : r.n ≤ 9223372036854775807
  mem : MonAt w r.A r.ts
def MRow.v (r : MRow) : Value := .slice r.A r.n r.c
theorem MRow.At.below {r : MRow} {w w' : World} (h : r.At w) (hb : Below w.heap.size w w') : r.At w' := ⟨h.len, h.cap, h.top, h.mem.below hb⟩
def RowAt (w : World) (A : Option Addr) (rs : List MRow) : Prop := ∀ (i : Nat) (r : MRow), rs[i]? = some r → ∃ b o, A = some ⟨b, o, none⟩ ∧ b < w.heap.size ∧ w.cell? ⟨b, o + i, none⟩ = some r.v
theorem RowAt.below {w w' : World} {A : Option Addr} {rs : List MRow} (h : RowAt w A rs) (hb : Below w.heap.size w w') : RowAt w' A rs := fun i t ht => by
  obtain ⟨b, o, hA, hl, h0⟩ := h i t ht
  exact ⟨b, o, hA, Nat.lt_of_lt_of_le hl hb.size, (hb.cell (p := ⟨b, _, none⟩) hl).trans h0⟩
def FitR (w : World) (r : MRow) : Prop := MF w r.A r.ts r.n r.c
theorem enter_gM (args : Array Value) (w : World) : (callFunc 84 args).run Tryz.prog w = .ok (.enter 84 args) w := by kernel_rfl
set_option maxHeartbeats 2000000 in
set_option maxRecDepth 100000 in
theorem idxG (A : Option Addr) (rs : List MRow) (n c : Nat) (w : World) (hG : Glob w) (hn : rs.length = n) (hn2 : n ≤ 1000000000) (h : RowAt w A rs) (hr : ∀ r ∈ rs, r.At w) :
    Calls Tryz.prog 151 #[.slice A n c, (.func (Fn.func 84) #[] #[])] w fun e w' => ∃ z : Int, e = .returned (.int .i64 z) ∧ (z < 0 → ∀ r ∈ rs, FitR w r) ∧ Below w.heap.size w w' := by
  have HI := Lib.hid h
  have HR := Lib.hid hr
  have hn1 : rs.length ≤ n := by omega
  have hn3 : n ≤ rs.length := by omega
  clear h hr hn
  have hcall := enter_gM
  go_enter Tryz.func151, Tryz.ntmps151
  go_wp2_with fail
  go_loopw [8] (fun iv wr => ∃ k : Nat, k ≤ n ∧ iv = .int .i64 (k : Int) ∧ Hid (∀ i r, i < k → rs[i]? = some r → FitR w r) ∧ Below w.heap.size w wr) (fun iv _ => n - (intOf iv).toNat)
  case atStart => exact ⟨0, Nat.zero_le _, rfl, fun i t hi => absurd hi (Nat.not_lt_zero _), Below.refl _ _⟩
  case round =>
    obtain ⟨k, hk, rfl, HK, hb⟩ := hrel
    by_cases hlt : k < n
    · obtain ⟨x, hx⟩ : ∃ x, rs[k]? = some x := ⟨_, List.getElem?_eq_getElem (by omega)⟩
      obtain ⟨b, o, rfl, hbs, p0⟩ := (HI.out.below hb) k x hx
      have hA := HR.out x (List.mem_of_getElem? hx)
      have CP := Lib.hid ((rGreatM x.A x.ts x.n x.c wr (hG.below hb) hA.len hA.cap hA.top (hA.mem.below hb)))
      have HX := Lib.hid hx
      have HA := Lib.hid hA
      unfold MRow.v at p0
      clear hx hA
      go_wp2_with fail
      ((with_reducible refine CP.out.mono ?_); rintro e w2 ⟨q, rfl, hq, hb2⟩)
      have HQ := Lib.hid hq
      replace hb := bto hb hb2
      clear hb2 CP p0 hq
      cases q with
      | true =>
        clear HK
        go_wp2
        go_ret
        exact ⟨_, rfl, fun h => absurd h (by omega), hb⟩
      | false =>
        have HV : Hid (∀ i r, i < k + 1 → rs[i]? = some r → FitR w r) := fun i r hi hr => by
          by_cases hik : i < k
          · exact HK.out i r hik hr
          · obtain rfl : i = k := by omega
            have := HX.out
            rw [hr] at this
            injection this with this
            subst this
            have m := HQ.out rfl
            have a := HA.out
            exact ⟨m.len, m.cap, m.sz, m.str, a.mem⟩
        clear HK HX HA HQ
        go_wp2
        go_roundw
        case rel => exact ⟨k + 1, by omega, by go_num, HV.out, hb⟩
        case measure => simp [intOf]; omega
    · have HS : Hid (∀ r ∈ rs, FitR w r) := fun r hr => by
        obtain ⟨i, hi⟩ := List.mem_iff_getElem?.1 hr
        exact HK.out i r (by have := (List.getElem?_eq_some_iff.1 hi).1; omega) hi
      clear HK
      go_wp2
      go_ret
      exact ⟨_, rfl, fun _ => HS.out, hb⟩
set_option maxHeartbeats 2000000 in
set_option maxRecDepth 100000 in
theorem conG (A : Option Addr) (rs : List MRow) (n c : Nat) (w : World) (hG : Glob w) (hn : rs.length = n) (hn2 : n ≤ 1000000000) (h : RowAt w A rs) (hr : ∀ r ∈ rs, r.At w) :
    Calls Tryz.prog 83 #[.slice A n c, (.func (Fn.func 84) #[] #[])] w (GEnd (fun b => b = false → ∀ r ∈ rs, FitR w r) w) := by
  have C1 := Lib.hid (idxG A rs n c w hG hn hn2 h hr)
  clear hn h hr
  go_enter Tryz.func83, Tryz.ntmps83
  go_wp2_with fail
  refine C1.out.mono ?_
  rintro e w2 ⟨z, rfl, hz, hb⟩
  have HZ := Lib.hid hz
  by_cases g : 0 ≤ z
  · have e1 : decide (0 ≤ z) = true := decide_eq_true g
    clear hz
    go_wp2
    go_ret
    exact gend (fun h => by cases h) hb
  · have e1 : decide (0 ≤ z) = false := decide_eq_false g
    clear hz
    go_wp2
    go_ret
    exact gend (fun _ => HZ.out (by omega)) hb
set_option maxHeartbeats 2000000 in
set_option maxRecDepth 100000 in
theorem lgreatM (A : Option Addr) (rs : List MRow) (n c : Nat) (w : World) (hG : Glob w) (hn : rs.length = n) (hn2 : n ≤ 1000000000) (h : RowAt w A rs) (hr : ∀ r ∈ rs, r.At w) :
    Calls Tryz.prog 25 #[.slice A n c] w (GEnd (fun b => b = false → ∀ r ∈ rs, FitR w r) w) := by
  have C1 := Lib.hid (conG A rs n c w hG hn hn2 h hr)
  clear hn h hr
  go_enter Tryz.func25, Tryz.ntmps25
  go_wp2_with fail
  refine C1.out.mono ?_
  rintro e w2 ⟨b, rfl, hq, hb⟩
  have HQ := Lib.hid hq
  clear hq
  go_wp2
  go_ret
  exact gend HQ.out hb
def longM (m : Mon) : Bool := decide (13 < m.amt.length) || decide (8 < m.cur.length)
theorem longM_no {m : Mon} (h : longM m = false) : m.cur.length ≤ 8 ∧ m.amt.length ≤ 13 := by
  unfold longM at h; simp at h; omega
set_option maxHeartbeats 2000000 in
set_option maxRecDepth 100000 in
theorem llongM (m : Mon) : Ret 19 #[.agg #[.string ⟨m.cur.toArray⟩, .string ⟨m.amt.toArray⟩]] (.bool (longM m)) := fun w hG => by
  have hb := below_alloc w (.cells #[.string ⟨m.cur.toArray⟩, .string ⟨m.amt.toArray⟩] 25)
  have x1 := FBox.new w (.string ⟨m.cur.toArray⟩) (.string ⟨m.amt.toArray⟩) 25
  by_cases g1 : 13 < m.amt.length
  · have C1 := Lib.hid (qLong (l := m.amt) (decide_eq_true g1))
    have HV : Hid (longM m = true) := by unfold longM; show _ = _; rw [decide_eq_true g1]; rfl
    clear g1
    have q1 := x1.c1
    go_enter Tryz.func19, Tryz.ntmps19
    go_wp2_with fail
    ((with_reducible refine (C1.out.of hG hb).mono ?_); rintro e w2 ⟨rfl, hb2⟩)
    replace hb := bto hb hb2
    clear hb2 x1 q1
    go_wp2
    go_ret
    exact ⟨by rw [HV.out]; rfl, hb⟩
  have C1 := Lib.hid (qLong (l := m.amt) (decide_eq_false g1))
  have HV : Hid (longM m = decide (8 < m.cur.length)) := by unfold longM; show _ = _; rw [decide_eq_false g1]; rfl
  clear g1
  have q1 := x1.c1
  go_enter Tryz.func19, Tryz.ntmps19
  go_wp2_with fail
  ((with_reducible refine (C1.out.of hG hb).mono ?_); rintro e w2 ⟨rfl, hb2⟩)
  replace hb := bto hb hb2
  replace x1 := x1.below hb2
  clear hb2 q1
  have q0 := x1.c0
  by_cases g2 : 8 < m.cur.length
  · have e1 : decide (8 < m.cur.length) = true := decide_eq_true g2
    have e2 : decide ((8 : Int) < (m.cur.length : Int)) = true := decide_eq_true (by omega)
    clear g2
    go_wp2
    go_ret
    exact ⟨by rw [HV.out, e1]; rfl, hb⟩
  have e1 : decide (8 < m.cur.length) = false := decide_eq_false g2
  have e2 : decide ((8 : Int) < (m.cur.length : Int)) = false := decide_eq_false (by omega)
  clear g2
  go_wp2
  go_ret
  exact ⟨by rw [HV.out, e1]; rfl, hb⟩
def exT : List Cur := [⟨[85, 83, 68], 2⟩, ⟨[74, 80, 89], 0⟩]
set_option maxHeartbeats 2000000 in
set_option maxRecDepth 100000 in
theorem lexample (w : World) : Calls Tryz.prog 73 #[] w fun e w' => ∃ B, e = .returned (.slice (some ⟨B, 0, none⟩) 2 2) ∧ TL w' (some ⟨B, 0, none⟩) exT 2 2 ∧ Below w.heap.size w w' := by
  have hb := below_alloc w (.cells #[.string ⟨#[85, 83, 68]⟩, .int .i64 2, .string ⟨#[74, 80, 89]⟩, .int .i64 0] 47)
  go_enter Tryz.func73, Tryz.ntmps73
  go_wp2
  go_ret
  refine ⟨w.heap.size, rfl, ⟨rfl, by decide, by decide, by decide, fun i t ht => ?_⟩, hb⟩
  have hi := (List.getElem?_eq_some_iff.1 ht).1
  have hi : i = 0 ∨ i = 1 := by simp [exT] at hi; omega
  rcases hi with rfl | rfl <;> (simp [exT] at ht; subst ht; exact ⟨w.heap.size, 0, rfl, by simp, by simp [go_sem], by simp [go_sem]⟩)

end Go.Proofs.YtdjjlbfleibhjaaGreatDoor
namespace Go.Proofs.YtdjjlbfleibhjaaGreatDoor
open Go.RowKit Num
theorem max4 {P : Program} (ts : Array TypeId) (t : TypeId) (w : World) : (Builtin.max_ ts t #[.int .i64 0, .int .i64 0, .int .i64 0, .int .i64 0]).run P w = .ok (.int .i64 0) w := by
  simp [Builtin.max_, Builtin.max2]
theorem max8 {P : Program} (ts : Array TypeId) (t : TypeId) (w : World) : (Builtin.max_ ts t #[.int .i64 0, .int .i64 0, .int .i64 0, .int .i64 0, .int .i64 0, .int .i64 0, .int .i64 0, .int .i64 0]).run P w = .ok (.int .i64 0) w := by
  simp [Builtin.max_, Builtin.max2]
deriving instance DecidableEq for Mon
theorem aw_t1 : textV exT ⟨[85, 83, 68], [45, 49, 50, 51, 52]⟩ = ([45, 49, 50, 46, 51, 52, 32, 85, 83, 68], 0) := by decide +kernel
theorem aw_t2 : textV exT ⟨[74, 80, 89], [53]⟩ = ([53, 32, 74, 80, 89], 0) := by decide +kernel
theorem aw_p1 : mParse exT [48, 46, 53, 48, 48, 32, 85, 83, 68] = (⟨[85, 83, 68], [53, 48]⟩, 0) := by decide +kernel
theorem aw_p2 : mParse exT [48, 46, 48, 48, 53, 32, 85, 83, 68] = (noM, 22) := by decide +kernel
theorem aw_s1 : sumV [⟨[69, 85, 82], [53]⟩, ⟨[85, 83, 68], [45, 51]⟩] [⟨[74, 80, 89], [55]⟩, ⟨[85, 83, 68], [51]⟩] = ([⟨[69, 85, 82], [53]⟩, ⟨[74, 80, 89], [55]⟩], 0) := by decide +kernel
theorem two_at {w w' : World} {a b c d : List UInt8} (hw : w' = w.alloc (.cells #[.string ⟨a.toArray⟩, .string ⟨b.toArray⟩, .string ⟨c.toArray⟩, .string ⟨d.toArray⟩] 25)) : MonAt w' (some ⟨w.heap.size, 0, none⟩) [⟨a, b⟩, ⟨c, d⟩] := fun i t ht => by
  have hi := (List.getElem?_eq_some_iff.1 ht).1
  have hi : i = 0 ∨ i = 1 := by simp at hi; omega
  rw [hw]
  rcases hi with rfl | rfl <;> (simp at ht; subst ht; exact ⟨w.heap.size, 0, rfl, by simp, by simp [go_sem], by simp [go_sem]⟩)
set_option maxHeartbeats 8000000 in
set_option maxRecDepth 100000 in
theorem wAwake5 : Ret 20 #[] (.bool true) := fun w hG => by
  have hb := Below.refl w.heap.size w
  go_enter Tryz.func20, Tryz.ntmps20
  go_wp2_with fail
  refine (lexample w).mono ?_
  rintro e w1 ⟨B1, rfl, hT1, hb1⟩
  replace hb := bto hb hb1
  have C1 := mText _ exT 2 2 ⟨[85, 83, 68], [45, 49, 50, 51, 52]⟩ w1 (hG.below hb) hT1 (by decide) (by decide)
  rw [aw_t1] at C1
  clear hb1 hT1
  go_wp2_with fail
  refine C1.mono ?_
  rintro e w2 ⟨rfl, hb2⟩
  replace hb := bto hb hb2
  clear hb2 C1
  go_wp2_with fail
  refine (lexample w2).mono ?_
  rintro e w3 ⟨B3, rfl, hT3, hb3⟩
  replace hb := bto hb hb3
  have C3 := mText _ exT 2 2 ⟨[74, 80, 89], [53]⟩ w3 (hG.below hb) hT3 (by decide) (by decide)
  rw [aw_t2] at C3
  clear hb3 hT3
  go_wp2_with fail
  refine C3.mono ?_
  rintro e w4 ⟨rfl, hb4⟩
  replace hb := bto hb hb4
  clear hb4 C3
  go_wp2_with fail
  refine (lexample w4).mono ?_
  rintro e w5 ⟨B5, rfl, hT5, hb5⟩
  replace hb := bto hb hb5
  have C5 := mParseW _ exT 2 2 [48, 46, 53, 48, 48, 32, 85, 83, 68] w5 (hG.below hb) hT5 (by decide) (by decide)
  rw [aw_p1] at C5
  clear hb5 hT5
  go_wp2_with fail
  refine C5.mono ?_
  rintro e w6 ⟨rfl, hb6⟩
  replace hb := bto hb hb6
  have hbA := below_alloc w6 (.cells #[.string ⟨#[85, 83, 68]⟩, .string ⟨#[53, 48]⟩] 25)
  have x5 := FBox.new w6 (.string ⟨#[85, 83, 68]⟩) (.string ⟨#[53, 48]⟩) 25
  replace hb := bto hb hbA
  clear hb6 C5 hbA
  unfold pmV
  go_wp2_with fail
  refine (lexample _).mono ?_
  rintro e w7 ⟨B7, rfl, hT7, hb7⟩
  replace hb := bto hb hb7
  replace x5 := x5.below hb7
  have C7 := mParseW _ exT 2 2 [48, 46, 48, 48, 53, 32, 85, 83, 68] w7 (hG.below hb) hT7 (by decide) (by decide)
  rw [aw_p2] at C7
  clear hb7 hT7
  go_wp2_with fail
  refine C7.mono ?_
  rintro e w8 ⟨rfl, hb8⟩
  replace hb := bto hb hb8
  replace x5 := x5.below hb8
  have hbA := below_alloc w8 (.cells #[.string ⟨#[]⟩, .string ⟨#[]⟩] 25)
  have x7 := FBox.new w8 (.string ⟨#[]⟩) (.string ⟨#[]⟩) 25
  replace hb := bto hb hbA
  replace x5 := x5.below hbA
  clear hb8 C7 hbA
  unfold pmV noM
  go_wp2_with fail
  generalize hwa : w8.alloc (.cells #[.string ⟨#[]⟩, .string ⟨#[]⟩] 25) = wa at *
  have hsz : w8.heap.size + 1 = wa.heap.size := by rw [← hwa]; simp
  rw [hsz]
  have hb1 := below_alloc wa (.cells #[.string ⟨#[69, 85, 82]⟩, .string ⟨#[53]⟩, .string ⟨#[85, 83, 68]⟩, .string ⟨#[45, 51]⟩] 25)
  have hX := two_at (a := [69, 85, 82]) (b := [53]) (c := [85, 83, 68]) (d := [45, 51]) (w := wa) rfl
  generalize hwb : wa.alloc (.cells #[.string ⟨#[69, 85, 82]⟩, .string ⟨#[53]⟩, .string ⟨#[85, 83, 68]⟩, .string ⟨#[45, 51]⟩] 25) = wb at *
  have hsb : wa.heap.size + 1 = wb.heap.size := by rw [← hwb]; simp
  rw [hsb]
  have hb2 := below_alloc wb (.cells #[.string ⟨#[74, 80, 89]⟩, .string ⟨#[55]⟩, .string ⟨#[85, 83, 68]⟩, .string ⟨#[51]⟩] 25)
  have hY := two_at (a := [74, 80, 89]) (b := [55]) (c := [85, 83, 68]) (d := [51]) (w := wb) rfl
  generalize hwc : wb.alloc (.cells #[.string ⟨#[74, 80, 89]⟩, .string ⟨#[55]⟩, .string ⟨#[85, 83, 68]⟩, .string ⟨#[51]⟩] 25) = wc at *
  clear hwc hwb hwa hsz hsb
  have hb3 := bto hb1 hb2
  replace hb := bto hb hb3
  replace x5 := x5.below hb3
  replace x7 := x7.below hb3
  have CS := mSum _ _ [⟨[69, 85, 82], [53]⟩, ⟨[85, 83, 68], [45, 51]⟩] [⟨[74, 80, 89], [55]⟩, ⟨[85, 83, 68], [51]⟩] 2 2 2 2 wc (hG.below hb) ⟨rfl, by decide, by decide, hX.below hb2⟩ (by decide) ⟨rfl, by decide, by decide, hY⟩ (by decide)
  rw [aw_s1] at CS
  clear hb1 hb2 hb3 hX hY
  refine CS.mono ?_
  rintro e w9 ⟨B9, m9, c9, rfl, hm, hc9, hM9, hb9⟩
  replace hb := bto hb hb9
  replace x5 := x5.below hb9
  replace x7 := x7.below hb9
  clear hb9 CS
  subst hm
  have hmx := fun (ts : Array TypeId) (t : TypeId) (w : World) => max4 (P := Tryz.prog) ts t w
  have q0 := x5.c0
  have q1 := x5.c1
  have q2 := x7.c0
  have q3 := x7.c1
  go_wp2_with fail
  have hb1 := below_alloc w9 (.cells #[.string ⟨#[69, 85, 82]⟩, .string ⟨#[53]⟩, .string ⟨#[74, 80, 89]⟩, .string ⟨#[55]⟩] 25)
  have hS := two_at (a := [69, 85, 82]) (b := [53]) (c := [74, 80, 89]) (d := [55]) (w := w9) rfl
  have CE := eqMs _ _ [⟨[69, 85, 82], [53]⟩, ⟨[74, 80, 89], [55]⟩] [⟨[69, 85, 82], [53]⟩, ⟨[74, 80, 89], [55]⟩] 2 2 c9 2 _ rfl rfl (by decide) (by decide) (hM9.below hb1) hS
  rw [sameMs_self] at CE
  replace hb := bto hb hb1
  refine CE.mono ?_
  rintro e w10 ⟨rfl, hb10⟩
  replace hb := bto hb hb10
  clear hb10 CE hb1 hS hM9
  go_wp2
  go_ret
  exact ⟨rfl, hb⟩

end Go.Proofs.YtdjjlbfleibhjaaGreatDoor
namespace Go.Proofs.YtdjjlbfleibhjaaGreatDoor
open Go.RowKit Num
theorem row1_at {w : World} {r : MRow} : RowAt (w.alloc (.cells #[r.v] 35)) (some ⟨w.heap.size, 0, none⟩) [r] := fun i t ht => by
  have hi := (List.getElem?_eq_some_iff.1 ht).1
  have hi : i = 0 := by simp at hi; omega
  subst hi
  simp at ht; subst ht; exact ⟨w.heap.size, 0, rfl, by simp, by simp [go_sem]⟩
theorem row2_at {w : World} {r s : MRow} : RowAt (w.alloc (.cells #[r.v, s.v] 35)) (some ⟨w.heap.size, 0, none⟩) [r, s] := fun i t ht => by
  have hi := (List.getElem?_eq_some_iff.1 ht).1
  have hi : i = 0 ∨ i = 1 := by simp at hi; omega
  rcases hi with rfl | rfl <;> (simp at ht; subst ht; exact ⟨w.heap.size, 0, rfl, by simp, by simp [go_sem]⟩)
theorem row3_at {w : World} {r s t : MRow} : RowAt (w.alloc (.cells #[r.v, s.v, t.v] 35)) (some ⟨w.heap.size, 0, none⟩) [r, s, t] := fun i q ht => by
  have hi := (List.getElem?_eq_some_iff.1 ht).1
  have hi : i = 0 ∨ i = 1 ∨ i = 2 := by simp at hi; omega
  rcases hi with rfl | rfl | rfl <;> (simp at ht; subst ht; exact ⟨w.heap.size, 0, rfl, by simp, by simp [go_sem]⟩)
theorem smR_len (xs ys : List Mon) : (smR xs ys).length ≤ 16 := by
  unfold smR
  split
  · exact Nat.zero_le _
  · omega
theorem sumV_len (xs ys : List Mon) : (sumV xs ys).1.length ≤ 16 := by
  unfold sumV
  split
  · exact Nat.zero_le _
  · split
    · exact Nat.zero_le _
    · exact smR_len _ _
theorem putV_len (xs : List Mon) (m : Mon) : (putV xs m).1.length ≤ 16 := by
  unfold putV
  split
  · exact Nat.zero_le _
  · split
    · exact Nat.zero_le _
    · split
      · exact Nat.zero_le _
      · exact smR_len _ _
theorem negV_len (xs : List Mon) : (negV xs).1.length ≤ 16 := by
  unfold negV
  split
  · exact Nat.zero_le _
  · next h => rw [List.length_map]; exact (bagE_ok (Decidable.not_not.1 h)).2.2
theorem AmtLt.mono {k k' : Nat} {xs : List Mon} (h : AmtLt k xs) (hk : k ≤ k') : AmtLt k' xs := fun x hx => Nat.lt_of_lt_of_le (h x hx) (Nat.pow_le_pow_right (by decide) hk)
/-- a bag of known size -/
structure BG (xs : List Mon) (k L : Nat) : Prop where
  bag : Bag xs
  codes : Codes xs
  amt : AmtLt k xs
  len : xs.length ≤ L
theorem BG.of {xs : List Mon} {L : Nat} (h : bagE xs = 0) (ha : ∀ t ∈ xs, t.cur.length ≤ 8 ∧ t.amt.length ≤ 13) (hl : xs.length ≤ L) : BG xs 13 L := ⟨(bagE_ok h).1, (bagE_ok h).2.1, fun x hx => val_lt_of (ha x hx).2, hl⟩
theorem BG.nil : BG [] 0 0 := ⟨bag_nil, fun x hx => (by cases hx), fun x hx => (by cases hx), Nat.le_refl _⟩
theorem BG.up {xs : List Mon} {k k' L L' : Nat} (h : BG xs k L) (hk : k ≤ k') (hl : L ≤ L') : BG xs k' L' := ⟨h.bag, h.codes, h.amt.mono hk, Nat.le_trans h.len hl⟩
theorem codes_sum {a b : List Mon} (ha : Srt a) (hb : Srt b) (h : Codes a) (h' : Codes b) : Codes (smL a b) := fun x hx => by
  rcases sum_key ha hb hx with ⟨y, hy, e⟩ | ⟨y, hy, e⟩
  · rw [← e]; exact h y hy
  · rw [← e]; exact h' y hy
theorem BG.sum {a b : List Mon} {k L L' : Nat} (h : BG a k L) (h' : BG b k L') : BG (smL a b) (k + 1) (L + L') :=
  ⟨bag_sum h.bag h'.bag, codes_sum h.bag.srt h'.bag.srt h.codes h'.codes, sum_lt h.bag.srt h'.bag.srt h.amt h'.amt, Nat.le_trans (smL_len a b) (Nat.add_le_add h.len h'.len)⟩
theorem BG.neg {a : List Mon} {k L : Nat} (h : BG a k L) : BG (a.map negM) k L := by
  refine ⟨bag_neg h.bag, fun x hx => ?_, fun x hx => ?_, by rw [List.length_map]; exact h.len⟩
  · obtain ⟨y, hy, rfl⟩ := List.mem_map.1 hx; exact h.codes y hy
  · obtain ⟨y, hy, rfl⟩ := List.mem_map.1 hx
    show (val (canon (- val y.amt))).natAbs < _
    rw [val_canon, Int.natAbs_neg]
    exact h.amt y hy
theorem BG.ok {a : List Mon} {k L : Nat} (h : BG a k L) (hl : a.length ≤ 16) : bagE a = 0 := bagE_mk h.bag h.codes hl
theorem codeB_len {l : List UInt8} (h : codeB l = true) : l.length = 3 := by
  unfold codeB at h; simp at h; exact h.1
/-- amounts in memory -/
structure AtM (w : World) (A : Option Addr) (xs : List Mon) (n c : Nat) : Prop where
  len : xs.length = n
  cap : n ≤ c
  mem : MonAt w A xs
theorem AtM.below {w w' : World} {A : Option Addr} {xs : List Mon} {n c : Nat} (h : AtM w A xs n c) (hb : Below w.heap.size w w') : AtM w' A xs n c := ⟨h.len, h.cap, h.mem.below hb⟩
theorem AtM.nil (w : World) : AtM w none [] 0 0 := ⟨rfl, Nat.le_refl _, mon_nil w none⟩
theorem BG.ml {w : World} {A : Option Addr} {xs : List Mon} {n c k L : Nat} (h : BG xs k L) (hk : k ≤ 90) (hl : xs.length ≤ 16) (hm : AtM w A xs n c) : ML w A xs n :=
  ⟨hm.len, by have := hm.len; omega, fun t ht => ⟨by rw [codeB_len (h.codes t ht)]; decide, Nat.le_trans (can_len h.bag.can h.amt t ht) (by omega)⟩, hm.mem⟩
/-- a bag is returned without an error -/
def BagEnd (xs : List Mon) (w : World) (e : Ending) (w' : World) : Prop := ∃ B m cp, e = .returned (.tuple #[.slice B m cp, .int .i64 0]) ∧ AtM w' B xs m cp ∧ Below w.heap.size w w'
theorem bag_end {xs ys : List Mon} {z : Int} {w w' : World} {e : Ending} (h : MonEnd ys z w e w') (h1 : ys = xs) (h2 : z = 0) : BagEnd xs w e w' := by
  subst h1 h2
  obtain ⟨B, m, cp, he, hl, hc, hm, hb⟩ := h
  exact ⟨B, m, cp, he, ⟨hl, hc, hm⟩, hb⟩
theorem mSumG {A B : Option Addr} {xs ys zs : List Mon} {n c n' c' k L k' L' : Nat} {w : World} (hG : Glob w) (h : BG xs k L) (h' : BG ys k' L') (hk : k ≤ 90) (hk' : k' ≤ 90) (hx : AtM w A xs n c) (hy : AtM w B ys n' c') (hz : smL xs ys = zs) (h1 : xs.length ≤ 16) (h2 : ys.length ≤ 16) (h3 : zs.length ≤ 16) :
    Calls Tryz.prog 26 #[.slice A n c, .slice B n' c'] w (BagEnd zs w) := by
  refine (mSum A B xs ys n c n' c' w hG (h.ml hk h1 hx) hx.cap (h'.ml hk' h2 hy) hy.cap).mono (fun e w' hE => bag_end hE ?_ ?_)
  · unfold sumV; rw [if_neg (fun g => g (h.ok h1)), if_neg (fun g => g (h'.ok h2))]; unfold smR; rw [hz, if_neg (by omega)]
  · unfold sumV; rw [if_neg (fun g => g (h.ok h1)), if_neg (fun g => g (h'.ok h2))]; unfold smE; rw [hz, if_neg (by omega)]
theorem mNegG {A : Option Addr} {xs : List Mon} {n c k L : Nat} {w : World} (hG : Glob w) (h : BG xs k L) (hk : k ≤ 90) (hx : AtM w A xs n c) (h1 : xs.length ≤ 16) :
    Calls Tryz.prog 35 #[.slice A n c] w (BagEnd (xs.map negM) w) := by
  refine (mNeg A xs n c w hG (h.ml hk h1 hx)).mono (fun e w' hE => bag_end hE ?_ ?_)
  · unfold negV; rw [if_neg (fun g => g (h.ok h1))]
  · unfold negV; rw [if_neg (fun g => g (h.ok h1))]
theorem mPutG {A : Option Addr} {xs zs : List Mon} {m : Mon} {n c k L : Nat} {w : World} (hG : Glob w) (h : BG xs k L) (hk : k ≤ 90) (hx : AtM w A xs n c) (hm : codeB m.cur = true) (hg : m.amt = canon (val m.amt)) (hl : m.amt.length ≤ 100) (hz : putL xs m = zs) (h1 : xs.length ≤ 16) (h3 : zs.length ≤ 16) :
    Calls Tryz.prog 39 #[.slice A n c, .agg #[.string ⟨m.cur.toArray⟩, .string ⟨m.amt.toArray⟩]] w (BagEnd zs w) := by
  refine (mPut A xs n c m w hG (h.ml hk h1 hx) hx.cap (by rw [codeB_len hm]; decide) (by omega)).mono (fun e w' hE => bag_end hE ?_ ?_)
  · unfold putV; rw [if_neg (fun g => g (h.ok h1)), if_neg (fun g => g hm), if_neg (fun g => g hg)]; unfold smR; rw [show smL xs [m] = zs from hz, if_neg (by omega)]
  · unfold putV; rw [if_neg (fun g => g (h.ok h1)), if_neg (fun g => g hm), if_neg (fun g => g hg)]; unfold smE; rw [show smL xs [m] = zs from hz, if_neg (by omega)]
theorem eqMG {A B : Option Addr} {xs ys : List Mon} {n c n' c' : Nat} {w : World} (hx : AtM w A xs n c) (hy : AtM w B ys n' c') (h : xs = ys) (hl : xs.length ≤ 16) :
    Calls Tryz.prog 28 #[.slice A n c, .slice B n' c'] w fun e w' => e = .returned (.bool true) ∧ Below w.heap.size w w' := by
  subst h
  have := eqMs A B xs xs n n' c c' w hx.len hy.len (by have := hx.len; omega) (by have := hy.len; omega) hx.mem hy.mem
  rwa [sameMs_self] at this
theorem MF.at {w : World} {A : Option Addr} {xs : List Mon} {n c : Nat} (h : MF w A xs n c) : AtM w A xs n c := ⟨h.len, h.cap, h.mem⟩
end Go.Proofs.YtdjjlbfleibhjaaGreatDoor
namespace Go.Proofs.YtdjjlbfleibhjaaGreatDoor
open Go.ChangeShapes Go.WideShapes Go.ChangeAt Go.RowKit Go.Deep
theorem cell_plain' {w : World} {a : Addr} {v : Value} (h : w.cell? a = some v) : a.spot = none ∧ a.block < w.heap.size := by
  unfold World.cell? at h
  split at h
  · next he =>
    split at h
    · cases h
    · next hs => exact ⟨by simpa using hs, (Array.getElem?_eq_some_iff.1 he).1⟩
  · cases h
theorem czk_int : Tryz.prog.cellsOf 3 = 1 := by kernel_rfl
theorem czk_str : Tryz.prog.cellsOf 9 = 1 := by kernel_rfl
theorem czk_ai : Tryz.prog.cellsOf 23 = 1 := by kernel_rfl
theorem czk_mo : Tryz.prog.cellsOf 25 = 2 := by kernel_rfl
theorem czk_cur : Tryz.prog.cellsOf 47 = 2 := by kernel_rfl
section
variable {H : Type} {enc : TypeId × Value → H} {w : World} {base : Nat} {spare : Nat → Bool} {held : Bool}
theorem field_at' {n : Nat} {fs : Array Field} {cs : List Value} {xs : List (DataW H × List MemPlace)} (hf : ∀ (i : Nat) (f : Field), fs[i]? = some f → DataW.trod enc Tryz.prog w base spare held n f.type ((cs.drop f.offset).take (Tryz.prog.cellsOf f.type)) = xs[i]?)
    (i : Nat) (ty : TypeId) (off : Nat) (f : Field) (h1 : fs[i]? = some f) (h2 : f.type = ty) (h3 : f.offset = off) (k : Nat) (h4 : Tryz.prog.cellsOf ty = k) (h5 : i < xs.length) : DataW.trod enc Tryz.prog w base spare held n ty ((cs.drop off).take k) = some (xs[i]'h5) := by
  have h := hf i f h1
  rw [h2, h3, h4, List.getElem?_eq_getElem h5] at h
  exact h
def ShortM (ts : List Mon) : Prop := ∀ t ∈ ts, t.cur.length ≤ 9223372036854775807 ∧ t.amt.length ≤ 9223372036854775807
set_option maxRecDepth 10000 in
theorem mon_of_trod {fuel : Nat} {cs : List Value} {x : DataW H × List MemPlace} (h : DataW.trod enc Tryz.prog w base spare held fuel 25 cs = some x) : ∃ t : Mon, cs = [.string ⟨t.cur.toArray⟩, .string ⟨t.amt.toArray⟩] ∧ t.cur.length ≤ 9223372036854775807 ∧ t.amt.length ≤ 9223372036854775807 := by
  obtain ⟨xs, n, -, -, hlen, hxl, hf⟩ := DataW.trod_struct Tryz.underlying25 h
  rw [czk_mo] at hlen
  have hxl : xs.length = 2 := hxl
  match cs, hlen with
  | [c0, c1], _ =>
    have h1 : DataW.trod enc Tryz.prog w base spare held n 9 [c0] = some (xs[0]'(by omega)) := field_at' hf 0 9 0 _ rfl rfl rfl 1 czk_str (by omega)
    have h2 : DataW.trod enc Tryz.prog w base spare held n 23 [c1] = some (xs[1]'(by omega)) := field_at' hf 1 23 1 _ rfl rfl rfl 1 czk_ai (by omega)
    obtain ⟨s1, e1, -, w1⟩ := DataW.trod_string Tryz.underlying9 h1
    injection e1 with e1
    obtain ⟨s2, e2, -, w2⟩ := DataW.trod_string Tryz.underlying23 h2
    injection e2 with e2
    subst e1 e2
    unfold maxLen at w1
    unfold maxLen at w2
    refine ⟨⟨s1.data.toList, s2.data.toList⟩, rfl, ?_, ?_⟩
    · show s1.data.toList.length ≤ _
      have : s1.size = s1.data.toList.length := by show s1.data.size = _; simp
      omega
    · show s2.data.toList.length ≤ _
      have : s2.size = s2.data.toList.length := by show s2.data.size = _; simp
      omega
set_option maxRecDepth 10000 in
theorem open_mons {r : Reach} {b0 : Nat} {v : Value} {d : DataW H} {p : List MemPlace} (hv : Value.okWide Tryz.prog w r b0 35 v) (h : DataW.Trod enc Tryz.prog w base spare held 35 v d p) :
    ∃ (A : Option Addr) (n c : Nat) (ts : List Mon), v = .slice A n c ∧ ts.length = n ∧ n ≤ c ∧ n ≤ 9223372036854775807 ∧ ShortM ts ∧ MonAt w A ts := by
  obtain ⟨A, n, c, rfl⟩ := okWide_slice Tryz.underlying35 hv
  obtain ⟨fuel, hf⟩ := h
  rcases open_slice Tryz.underlying35 hf with ⟨hcs, -⟩ | ⟨a, len, cap, m, k, D, Pl, hcs, -, hl, hm, hmm, -, hi⟩
  · have hcs : [Value.slice A n c] = [.slice none 0 0] := hcs
    injection hcs with hcs
    injection hcs with h1 h2 h3
    subst h1 h2 h3
    exact ⟨none, 0, 0, [], rfl, rfl, Nat.le_refl _, by omega, fun t ht => by simp at ht, fun i x hx => by simp at hx⟩
  · have hcs : [Value.slice A n c] = [.slice (some a) len cap] := hcs
    injection hcs with hcs
    injection hcs with h1 h2 h3
    subst h1 h2 h3
    have hnm : n ≤ m := by rw [hmm]; split <;> omega
    unfold maxLen at hm
    rw [czk_mo] at hi
    have hy : ∀ i, i < n → ∃ t : Mon, (w.cell? ((a.add (i * 2)).add 0) = some (.string ⟨t.cur.toArray⟩) ∧ w.cell? ((a.add (i * 2)).add 1) = some (.string ⟨t.amt.toArray⟩)) ∧ t.cur.length ≤ 9223372036854775807 ∧ t.amt.length ≤ 9223372036854775807 := fun i hin => by
      obtain ⟨cs', hc, ht⟩ := hi i (by omega)
      obtain ⟨t, hy, hlen⟩ := mon_of_trod ht
      obtain ⟨_, hcl, hat⟩ := World.cells?_some hc
      exact ⟨t, ⟨by rw [hat 0 (by decide), hy]; rfl, by rw [hat 1 (by decide), hy]; rfl⟩, hlen⟩
    have hget : ∀ i t, ((List.range n).map fun i => if hin : i < n then (hy i hin).choose else ⟨[], []⟩)[i]? = some t → ∃ hin : i < n, (hy i hin).choose = t := fun i t hx => by
      have hin : i < n := by
        have := (List.getElem?_eq_some_iff.1 hx).1
        simpa using this
      rw [List.getElem?_map, List.getElem?_range hin] at hx
      simp only [Option.map_some, dif_pos hin, Option.some.injEq] at hx
      exact ⟨hin, hx⟩
    refine ⟨some a, n, c, (List.range n).map fun i => if hin : i < n then (hy i hin).choose else ⟨[], []⟩, rfl, by simp, hl, by omega, ?_, ?_⟩
    · intro t ht
      obtain ⟨i, hi⟩ := List.getElem?_of_mem ht
      obtain ⟨hin, rfl⟩ := hget i t hi
      exact (hy i hin).choose_spec.2
    · intro i t hx
      obtain ⟨hin, rfl⟩ := hget i t hx
      have hcell := (hy i hin).choose_spec.1
      obtain ⟨hs0, hbl⟩ := cell_plain' (hy 0 (by omega)).choose_spec.1.1
      generalize (hy i hin).choose = t at hcell ⊢
      obtain ⟨b, o, s⟩ := a
      have hz : ((⟨b, o, s⟩ : Addr).add (0 * 2)).add 0 = ⟨b, o, s⟩ := by simp [Addr.add]
      rw [hz] at hs0 hbl
      have hs0 : s = none := hs0
      subst hs0
      simp only [Lib.add_plain] at hcell
      exact ⟨b, o, rfl, hbl, hcell⟩
set_option maxRecDepth 10000 in
theorem cur_of_trod {fuel : Nat} {cs : List Value} {x : DataW H × List MemPlace} (h : DataW.trod enc Tryz.prog w base spare held fuel 47 cs = some x) : ∃ t : Cur, cs = [.string ⟨t.code.toArray⟩, .int .i64 t.places] ∧ t.code.length ≤ 9223372036854775807 := by
  obtain ⟨xs, n, -, -, hlen, hxl, hf⟩ := DataW.trod_struct Tryz.underlying47 h
  rw [czk_cur] at hlen
  have hxl : xs.length = 2 := hxl
  match cs, hlen with
  | [c0, c1], _ =>
    have h0 : DataW.trod enc Tryz.prog w base spare held n 9 [c0] = some (xs[0]'(by omega)) := field_at' hf 0 9 0 _ rfl rfl rfl 1 czk_str (by omega)
    have h1 : DataW.trod enc Tryz.prog w base spare held n 3 [c1] = some (xs[1]'(by omega)) := field_at' hf 1 3 1 _ rfl rfl rfl 1 czk_int (by omega)
    obtain ⟨s0, e0, -, w0⟩ := DataW.trod_string Tryz.underlying9 h0
    obtain ⟨s1, e1, -, -⟩ := DataW.trod_int Tryz.underlying3 h1
    injection e0 with e0
    injection e1 with e1
    subst e0 e1
    unfold maxLen at w0
    refine ⟨⟨s0.data.toList, s1⟩, rfl, ?_⟩
    show s0.data.toList.length ≤ _
    have : s0.size = s0.data.toList.length := by show s0.data.size = _; simp
    omega
set_option maxRecDepth 10000 in
theorem open_curs {r : Reach} {b0 : Nat} {v : Value} {d : DataW H} {p : List MemPlace} (hv : Value.okWide Tryz.prog w r b0 22 v) (h : DataW.Trod enc Tryz.prog w base spare held 22 v d p) :
    ∃ (A : Option Addr) (n c : Nat) (ts : List Cur), v = .slice A n c ∧ ts.length = n ∧ n ≤ c ∧ n ≤ 9223372036854775807 ∧ ShortC ts ∧ CurAt w A ts := by
  obtain ⟨A, n, c, rfl⟩ := okWide_slice Tryz.underlying22 hv
  obtain ⟨fuel, hf⟩ := h
  rcases open_slice Tryz.underlying22 hf with ⟨hcs, -⟩ | ⟨a, len, cap, m, k, D, Pl, hcs, -, hl, hm, hmm, -, hi⟩
  · have hcs : [Value.slice A n c] = [.slice none 0 0] := hcs
    injection hcs with hcs
    injection hcs with h1 h2 h3
    subst h1 h2 h3
    exact ⟨none, 0, 0, [], rfl, rfl, Nat.le_refl _, by omega, fun t ht => by simp at ht, fun i x hx => by simp at hx⟩
  · have hcs : [Value.slice A n c] = [.slice (some a) len cap] := hcs
    injection hcs with hcs
    injection hcs with h1 h2 h3
    subst h1 h2 h3
    have hnm : n ≤ m := by rw [hmm]; split <;> omega
    unfold maxLen at hm
    rw [czk_cur] at hi
    have hy : ∀ i, i < n → ∃ t : Cur, (w.cell? ((a.add (i * 2)).add 0) = some (.string ⟨t.code.toArray⟩) ∧ w.cell? ((a.add (i * 2)).add 1) = some (.int .i64 t.places)) ∧ t.code.length ≤ 9223372036854775807 := fun i hin => by
      obtain ⟨cs', hc, ht⟩ := hi i (by omega)
      obtain ⟨t, hy, hlen⟩ := cur_of_trod ht
      obtain ⟨_, hcl, hat⟩ := World.cells?_some hc
      exact ⟨t, ⟨by rw [hat 0 (by decide), hy]; rfl, by rw [hat 1 (by decide), hy]; rfl⟩, hlen⟩
    have hget : ∀ i t, ((List.range n).map fun i => if hin : i < n then (hy i hin).choose else ⟨[], 0⟩)[i]? = some t → ∃ hin : i < n, (hy i hin).choose = t := fun i t hx => by
      have hin : i < n := by
        have := (List.getElem?_eq_some_iff.1 hx).1
        simpa using this
      rw [List.getElem?_map, List.getElem?_range hin] at hx
      simp only [Option.map_some, dif_pos hin, Option.some.injEq] at hx
      exact ⟨hin, hx⟩
    refine ⟨some a, n, c, (List.range n).map fun i => if hin : i < n then (hy i hin).choose else ⟨[], 0⟩, rfl, by simp, hl, by omega, ?_, ?_⟩
    · intro t ht
      obtain ⟨i, hi⟩ := List.getElem?_of_mem ht
      obtain ⟨hin, rfl⟩ := hget i t hi
      exact (hy i hin).choose_spec.2
    · intro i t hx
      obtain ⟨hin, rfl⟩ := hget i t hx
      have hcell := (hy i hin).choose_spec.1
      obtain ⟨hs0, hbl⟩ := cell_plain' (hy 0 (by omega)).choose_spec.1.1
      generalize (hy i hin).choose = t at hcell ⊢
      obtain ⟨b, o, s⟩ := a
      have hz : ((⟨b, o, s⟩ : Addr).add (0 * 2)).add 0 = ⟨b, o, s⟩ := by simp [Addr.add]
      rw [hz] at hs0 hbl
      have hs0 : s = none := hs0
      subst hs0
      rw [Lib.add_plain, Lib.add_plain, Lib.add_plain] at hcell
      exact ⟨b, o, rfl, hbl, hcell.1, hcell.2⟩
set_option maxRecDepth 10000 in
theorem open_mon {r : Reach} {b0 : Nat} {v : Value} {d : DataW H} {p : List MemPlace} (hv : Value.okWide Tryz.prog w r b0 25 v) (h : DataW.Trod enc Tryz.prog w base spare held 25 v d p) : ∃ m : Mon, v = .agg #[.string ⟨m.cur.toArray⟩, .string ⟨m.amt.toArray⟩] ∧ m.cur.length ≤ 9223372036854775807 ∧ m.amt.length ≤ 9223372036854775807 := by
  obtain ⟨cs, rfl, hsz⟩ := okWide_struct Tryz.underlying25 hv
  obtain ⟨fuel, hf⟩ := h
  obtain ⟨x, hx, h1, h2⟩ := mon_of_trod hf
  obtain ⟨l⟩ := cs
  exact ⟨x, by rw [show l = _ from hx], h1, h2⟩
end
end Go.Proofs.YtdjjlbfleibhjaaGreatDoor
