/-
  tranchelaw03.DecimalRound: for every input the law returns true, and each argument reads afterwards as it read before. Its conditions: the listed package-level variables of Go's library start as the program's text lays them (the card ties them).
-/
import Derived.Test.YtmmhimgkpfcokaaGreatDoorWf
import Derived.Test.YtmmhimgkpfcokaaGreatDoorBe
import Derived.Test.YtmmhimgkpfcokaaGreatDoorLrnd
import Derived.OpenShut
import Derived.Lib.SmallJoins
import Derived.Stop.LaidErr
namespace Go.Proofs.YtmmhimgkpfcokaaGreatDoor.decimalRound
open Go.ChangeShapes Go.WideShapes Go.ChangeAt Go.RowKit
open Go.ChangeMaps (open_string shut_string)

theorem cells_frac : Tryz.prog.cellsOf 32 = 2 := by kernel_rfl
theorem glob {W : World} (h : laidMetH Tryz.prog Rows.decimalRoundRow.laid W) (hs : W.ShapedOpen Tryz.prog) : Glob W := by
  have h1 : laidMet Tryz.prog laidList W := h
  refine ⟨?_, Tryz.laysM145.s1_3 W hs⟩
  exact Lib.tabIs_of_head (g := 3) (by kernel_rfl) (by kernel_rfl) Tryz.underlying250 Tryz.underlying132 (by kernel_rfl) (by kernel_rfl) h1.tail.tail

theorem params_ok : ∀ t ∈ Tryz.f9.params.toList, Tryz.prog.readableRec t = true ∧ t < Tryz.prog.types.size := by
  rw [Tryz.params9]
  intro t ht
  simp only [List.mem_cons, List.not_mem_nil, or_false] at ht
  rcases ht with rfl | rfl | rfl <;> exact ⟨by kernel_rfl, of_decide_eq_true (by kernel_rfl)⟩

set_option maxRecDepth 100000 in
theorem contract (H : Type) (enc : TypeId × Value → H) (W : World) (base : Nat) (args : Array Value) (ds gs : List (DataW H)) (before : List MemPlace)
    (hval : ∀ (j : Nat) t v, Tryz.f9.params[j]? = some t → args[j]? = some v → Value.okWide Tryz.prog W .any base t v)
    (hW : DataW.Whole enc Tryz.prog Tryz.f9.params.toList Rows.decimalRoundSpec.vars false W args.toList ds gs before) (hL : laidMetH Tryz.prog Rows.decimalRoundRow.laid W) (hS : W.ShapedOpen Tryz.prog) :
    Calls Tryz.prog 9 args W fun e W' => ∃ v, e = .returned v ∧ Rows.decimalRoundSpec.post enc Tryz.prog Tryz.f9 false true false false W args v W' := by
  have hW' := hW
  obtain ⟨p, q, hA0, hV, rfl, hfz, hnd⟩ := hW
  have hA : DataW.TrodAll enc Tryz.prog W 0 (fun _ => true) true Tryz.f9.params.toList args.toList ds p := hA0
  rw [Tryz.params9] at hA hval
  obtain ⟨v0, vs0, d0, ds0, p0, q0, hargs0, rfl, rfl, h0, r0⟩ := trodAll_cons hA
  obtain ⟨v1, vs1, d1, ds1, p1, q1, hargs1, rfl, rfl, h1, r1⟩ := trodAll_cons r0
  obtain ⟨v2, vs2, d2, ds2, p2, q2, hargs2, rfl, rfl, h2, r2⟩ := trodAll_cons r1
  obtain ⟨rfl, rfl, rfl⟩ := trodAll_nil r2
  obtain rfl : args = #[v0, v1, v2] := by cases args; simp_all
  obtain ⟨rfl, rfl⟩ := trodVars_none hV
  obtain ⟨a0, b0, y0, z0, m0, rfl, rfl, rfl, hy0, hz0⟩ := Joins.open_agg2 Tryz.underlying32 (by kernel_rfl) cells_frac (hval 0 32 v0 rfl rfl) h0
  obtain ⟨s0, e0, rfl, ws0⟩ := DataW.trod_string Tryz.underlying30 hy0
  obtain ⟨u0, g0, rfl, wu0⟩ := DataW.trod_string Tryz.underlying30 hz0
  simp only [List.cons.injEq, and_true] at e0 g0
  subst e0 g0
  obtain ⟨n1, rfl, rfl, rfl, wn1⟩ := open_int Tryz.underlying3 (hval 1 3 v1 rfl rfl) h1
  obtain ⟨n2, rfl, rfl, rfl, wn2⟩ := open_int Tryz.underlying3 (hval 2 3 v2 rfl rfl) h2
  clear hA0
  simp only [List.append_nil] at hW'
  refine (rnd_law s0.data.toList u0.data.toList n1 n2 (bounds_i64 wn1).1 (bounds_i64 wn1).2 (bounds_i64 wn2).1 (bounds_i64 wn2).2 W (glob hL hS)).mono fun e W' ⟨he, hg⟩ => ?_
  subst he
  exact ⟨_, rfl, law_post pf_laid params_ok (by kernel_rfl) Tryz.underlying4 rfl hW' rfl hg⟩

theorem reads (os : Os) {H : Type} (enc : TypeId × Value → H) : ∃ places, DataW.whole enc Tryz.prog ((laidWorld os).forCall (fun _ _ => 0) ⟨#[], #[.agg #[.string ⟨#[]⟩, .string ⟨#[]⟩], .int .i64 0, .int .i64 0], []⟩).memory Tryz.f9.params.toList Rows.decimalRoundSpec.vars false (#[.agg #[.string ⟨#[]⟩, .string ⟨#[]⟩], .int .i64 0, .int .i64 0] : Array Value).toList 8 = some ([.agg [.lit (.string []), .lit (.string [])], .lit (.int .i64 0), .lit (.int .i64 0)], [], places) :=
  ⟨[], by kernel_rfl⟩

set_option maxRecDepth 1000000 in
theorem lifted (os : Os) (started : os.Started) (H : Type) (enc : TypeId × Value → H) (F : Stop.Interp) :
    ReturnsInHanded {} Tryz.checked os 9 .any ((OpenSpec.ofChange Rows.decimalRoundSpec).preRow enc Tryz.prog Tryz.f9 Rows.decimalRoundRow.domain false Rows.decimalRoundRow.laid) (((OpenSpec.ofChange Rows.decimalRoundSpec).at F).post enc Tryz.prog Tryz.f9 false true false false) := by
  obtain ⟨places, hx⟩ := reads os enc
  refine returnsInHanded_of_row (C := Tryz.checked) (s := OpenSpec.ofChange Rows.decimalRoundSpec) own started (by kernel_rfl) Tryz.func9
    (witness_row_atRef (enc := enc) (C := Tryz.checked) false (laidWorld os) #[.agg #[.string ⟨#[]⟩, .string ⟨#[]⟩], .int .i64 0, .int .i64 0] rfl (by kernel_rfl) (by kernel_rfl) (by kernel_rfl)
      (OpenSpec.preRow_of_cond 8 hx (by kernel_rfl) (fun k hk => by cases hk) (by kernel_rfl) (laid_met os _))) ?_
  intro W base args ds gs before hval hW _ _ _ hL hS _
  exact contract H enc W base args ds gs before hval hW hL hS

theorem k_place : (Rows.decimalRoundRow.inPlace == Tryz.prog.inPlace 9) = true := by kernel_rfl
theorem k_unf : (Rows.decimalRoundRow.unfollowed == Tryz.prog.unfollowed 9) = true := by kernel_rfl
theorem k_rec : (Rows.decimalRoundRow.recurses == Tryz.prog.recurses 9) = true := by kernel_rfl
theorem k_named : (Rows.decimalRoundRow.named == Tryz.prog.varsNamed 9) = true := by kernel_rfl
theorem closed : joinedFacts Tryz.prog 9 Tryz.f9 Rows.decimalRoundSpec Rows.decimalRoundRow = true := by
  unfold joinedFacts
  repeat' (with_reducible refine and_t ?_ ?_)
  all_goals first | with_reducible exact pf_laid | with_reducible exact pf_maps | with_reducible exact pf_heard | with_reducible exact pf_enter | with_reducible exact k_place | with_reducible exact k_unf | with_reducible exact k_rec | with_reducible exact k_named | (rw [pf_lifts]; rfl) | (rw [pf_keys]; rfl) | kernel_rfl
theorem k_name : Tryz.prog.funcNamed "tranche/tranchelaw03.DecimalRound" = some 9 := by kernel_rfl
theorem k_name2 : Tryz.pinned.checked.prog.funcNamed Rows.decimalRoundRow.func = some 9 := by kernel_rfl
theorem closed2 : joinedFacts Tryz.pinned.checked.prog 9 Tryz.f9 (OpenSpec.ofChange Rows.decimalRoundSpec).bare Rows.decimalRoundRow = true := Eq.mpr (by kernel_rfl) closed
set_option maxRecDepth 1000000 in
theorem said : Rows.DecimalRoundSaid :=
  OpenClaim.holds_of_cond 9 Tryz.f9 rfl rfl rfl rfl rfl rfl rfl ⟨rfl, rfl, rfl, rfl, rfl⟩ rfl rfl rfl rfl rfl k_name2 Tryz.func9 closed2
    (of_decide_eq_true (by kernel_rfl)) (by unfold Func.isWrapper; first | (rw [if_pos (by decide +kernel)]; kernel_rfl) | (rw [if_neg (by decide +kernel)]; exact ⟨rfl, rfl⟩))
    (fun os started H enc _ F => by rw [OpenClaim.pre_eq_preRow]; exact lifted os started H enc F)

theorem plain (f : FuncId) (fn : Func) (hf : Tryz.pinned.checked.prog.funcNamed "tranche/tranchelaw03.DecimalRound" = some f) (hfn : Tryz.pinned.checked.prog.funcs[f]? = some fn) :
    true = Tryz.pinned.checked.prog.looks [] ∧ ∀ (j : Nat) t, fn.params[j]? = some t → Tryz.pinned.checked.prog.wantsStandIn t = false := by
  obtain rfl : f = 9 := Option.some.inj (k_name.symm.trans hf) |>.symm
  obtain rfl : fn = Tryz.f9 := (Option.some.inj (Tryz.func9.symm.trans hfn)).symm
  refine ⟨by kernel_rfl, fun j t ht => ?_⟩
  rw [Tryz.params9] at ht
  have hm := Array.mem_of_getElem? ht
  simp only [List.mem_toArray, List.mem_cons, List.not_mem_nil, or_false] at hm
  rcases hm with rfl | rfl | rfl
  · exact (show Tryz.prog.wantsStandIn 32 = false by kernel_rfl)
  · exact (show Tryz.prog.wantsStandIn 3 = false by kernel_rfl)
  · exact (show Tryz.prog.wantsStandIn 3 = false by kernel_rfl)

end Go.Proofs.YtmmhimgkpfcokaaGreatDoor.decimalRound
namespace Go.Proofs.YtmmhimgkpfcokaaGreatDoor
theorem decimalRound_card : Rows.DecimalRoundCardSaid :=
  Claim7.holds_tied_plain_at .later [] _ _ _ _ decimalRound.said (fun _ h => by cases h) (by kernel_rfl) (fun _ h => by cases h) decimalRound_row_tie rfl ⟨rfl, rfl⟩ (by kernel_rfl) rfl decimalRound.plain (by kernel_rfl)
end Go.Proofs.YtmmhimgkpfcokaaGreatDoor
