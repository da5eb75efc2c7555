/-
  tranchelaw12.ForwardOpposite: for every input the law returns true, and each argument reads afterwards as it read before. Its conditions: the listed package-level variables of Go's library start as the program's text lays them (the card ties them).
-/
import Derived.Test.YtgnppdkeiihlfaaGreatDoorF7
import Derived.Test.YtgnppdkeiihlfaaGreatDoorFWf
import Derived.Test.YtgnppdkeiihlfaaGreatDoorFBe
import Derived.Test.YtgnppdkeiihlfaaGreatDoorLv6q
import Derived.OpenShut
import Derived.Lib.SmallJoins
import Derived.Stop.LaidErr
namespace Go.Proofs.YtgnppdkeiihlfaaGreatDoor.forwardOpposite
open Go.ChangeShapes Go.WideShapes Go.ChangeAt Go.RowKit
open Go.ChangeMaps (open_string shut_string)

theorem cells_frac : Tryz.prog.cellsOf 25 = 2 := by kernel_rfl
theorem glob {W : World} (h : laidMetH Tryz.prog Rows.forwardOppositeRow.laid W) (hs : W.ShapedOpen Tryz.prog) : Glob W := by
  have h1 : laidMet Tryz.prog laidList W := h
  refine ⟨?_, Go.Proofs.cell_of_shapedOpen_int (zero := #[.int .i64 0]) (t := 3) hs (of_decide_eq_true (by kernel_rfl)) (by kernel_rfl) rfl (by kernel_rfl) (by kernel_rfl) Tryz.underlying3⟩
  exact Lib.tabIs_of_head (g := 2) (by kernel_rfl) (by kernel_rfl) Tryz.underlying262 Tryz.underlying151 (by kernel_rfl) (by kernel_rfl) h1.tail.tail

theorem params_ok : ∀ t ∈ Tryz.f5.params.toList, Tryz.prog.readableRec t = true ∧ t < Tryz.prog.types.size := by
  rw [Tryz.params5]
  intro t ht
  simp only [List.mem_cons, List.not_mem_nil, or_false] at ht
  rcases ht with rfl | rfl | rfl | rfl | rfl <;> exact ⟨by kernel_rfl, of_decide_eq_true (by kernel_rfl)⟩

set_option maxRecDepth 100000 in
theorem contract (H : Type) (enc : TypeId × Value → H) (W : World) (base : Nat) (args : Array Value) (ds gs : List (DataW H)) (before : List MemPlace)
    (hval : ∀ (j : Nat) t v, Tryz.f5.params[j]? = some t → args[j]? = some v → Value.okWide Tryz.prog W .any base t v)
    (hW : DataW.Whole enc Tryz.prog Tryz.f5.params.toList Rows.forwardOppositeSpec.vars false W args.toList ds gs before) (hL : laidMetH Tryz.prog Rows.forwardOppositeRow.laid W) (hS : W.ShapedOpen Tryz.prog) :
    Calls Tryz.prog 5 args W fun e W' => ∃ v, e = .returned v ∧ Rows.forwardOppositeSpec.post enc Tryz.prog Tryz.f5 false true false false W args v W' := by
  have hW' := hW
  obtain ⟨p, q, hA0, hV, rfl, hfz, hnd⟩ := hW
  have hA : DataW.TrodAll enc Tryz.prog W 0 (fun _ => true) true Tryz.f5.params.toList args.toList ds p := hA0
  rw [Tryz.params5] at hA hval
  obtain ⟨v0, vs0, d0, ds0, p0, q0, hargs0, rfl, rfl, h0, r0⟩ := trodAll_cons hA
  obtain ⟨v1, vs1, d1, ds1, p1, q1, hargs1, rfl, rfl, h1, r1⟩ := trodAll_cons r0
  obtain ⟨v2, vs2, d2, ds2, p2, q2, hargs2, rfl, rfl, h2, r2⟩ := trodAll_cons r1
  obtain ⟨v3, vs3, d3, ds3, p3, q3, hargs3, rfl, rfl, h3, r3⟩ := trodAll_cons r2
  obtain ⟨v4, vs4, d4, ds4, p4, q4, hargs4, rfl, rfl, h4, r4⟩ := trodAll_cons r3
  obtain ⟨rfl, rfl, rfl⟩ := trodAll_nil r4
  obtain rfl : args = #[v0, v1, v2, v3, v4] := by cases args; simp_all
  obtain ⟨rfl, rfl⟩ := trodVars_none hV
  obtain ⟨X0, e0⟩ := open_ins (hval 0 27 v0 rfl rfl) h0
  subst e0
  obtain ⟨s1, rfl, rfl, rfl, ws1⟩ := open_string Tryz.underlying23 (hval 1 23 v1 rfl rfl) h1
  obtain ⟨a2, b2, y2, z2, m2, rfl, rfl, rfl, hy2, hz2⟩ := Joins.open_agg2 Tryz.underlying25 (by kernel_rfl) cells_frac (hval 2 25 v2 rfl rfl) h2
  obtain ⟨s2, e2, rfl, ws2⟩ := DataW.trod_string Tryz.underlying23 hy2
  obtain ⟨u2, g2, rfl, wu2⟩ := DataW.trod_string Tryz.underlying23 hz2
  simp only [List.cons.injEq, and_true] at e2 g2
  subst e2 g2
  obtain ⟨a3, b3, y3, z3, m3, rfl, rfl, rfl, hy3, hz3⟩ := Joins.open_agg2 Tryz.underlying25 (by kernel_rfl) cells_frac (hval 3 25 v3 rfl rfl) h3
  obtain ⟨s3, e3, rfl, ws3⟩ := DataW.trod_string Tryz.underlying23 hy3
  obtain ⟨u3, g3, rfl, wu3⟩ := DataW.trod_string Tryz.underlying23 hz3
  simp only [List.cons.injEq, and_true] at e3 g3
  subst e3 g3
  obtain ⟨a4, b4, y4, z4, m4, rfl, rfl, rfl, hy4, hz4⟩ := Joins.open_agg2 Tryz.underlying25 (by kernel_rfl) cells_frac (hval 4 25 v4 rfl rfl) h4
  obtain ⟨s4, e4, rfl, ws4⟩ := DataW.trod_string Tryz.underlying23 hy4
  obtain ⟨u4, g4, rfl, wu4⟩ := DataW.trod_string Tryz.underlying23 hz4
  simp only [List.cons.injEq, and_true] at e4 g4
  subst e4 g4
  clear hA0
  simp only [List.append_nil] at hW'
  refine (opposite_law' X0 s1.data.toList s2.data.toList u2.data.toList s3.data.toList u3.data.toList s4.data.toList u4.data.toList W (glob hL hS)).mono fun e W' ⟨he, hg⟩ => ?_
  subst he
  exact ⟨_, rfl, law_post pf_laid params_ok (by kernel_rfl) Tryz.underlying4 rfl hW' rfl hg⟩

theorem reads (os : Os) {H : Type} (enc : TypeId × Value → H) : ∃ places, DataW.whole enc Tryz.prog ((laidWorld os).forCall (fun _ _ => 0) ⟨#[], #[.agg #[.string ⟨#[]⟩, .int .i64 0, .string ⟨#[]⟩, .int .i64 0, .int .i64 0, .int .i64 0, .string ⟨#[]⟩, .string ⟨#[]⟩, .string ⟨#[]⟩, .string ⟨#[]⟩, .int .i64 0, .int .i64 0, .string ⟨#[]⟩, .string ⟨#[]⟩, .string ⟨#[]⟩], .string ⟨#[]⟩, .agg #[.string ⟨#[]⟩, .string ⟨#[]⟩], .agg #[.string ⟨#[]⟩, .string ⟨#[]⟩], .agg #[.string ⟨#[]⟩, .string ⟨#[]⟩]], []⟩).memory Tryz.f5.params.toList Rows.forwardOppositeSpec.vars false (#[.agg #[.string ⟨#[]⟩, .int .i64 0, .string ⟨#[]⟩, .int .i64 0, .int .i64 0, .int .i64 0, .string ⟨#[]⟩, .string ⟨#[]⟩, .string ⟨#[]⟩, .string ⟨#[]⟩, .int .i64 0, .int .i64 0, .string ⟨#[]⟩, .string ⟨#[]⟩, .string ⟨#[]⟩], .string ⟨#[]⟩, .agg #[.string ⟨#[]⟩, .string ⟨#[]⟩], .agg #[.string ⟨#[]⟩, .string ⟨#[]⟩], .agg #[.string ⟨#[]⟩, .string ⟨#[]⟩]] : Array Value).toList 8 = some ([.agg [.lit (.string []), .lit (.int .i64 0), .lit (.string []), .lit (.int .i64 0), .lit (.int .i64 0), .lit (.int .i64 0), .agg [.lit (.string []), .lit (.string [])], .agg [.lit (.string []), .lit (.string [])], .lit (.int .i64 0), .lit (.int .i64 0), .lit (.string []), .agg [.lit (.string []), .lit (.string [])]], .lit (.string []), .agg [.lit (.string []), .lit (.string [])], .agg [.lit (.string []), .lit (.string [])], .agg [.lit (.string []), .lit (.string [])]], [], places) :=
  ⟨[], by kernel_rfl⟩

set_option maxRecDepth 1000000 in
theorem lifted (os : Os) (started : os.Started) (H : Type) (enc : TypeId × Value → H) (F : Stop.Interp) :
    ReturnsInHanded {} Tryz.checked os 5 .any ((OpenSpec.ofChange Rows.forwardOppositeSpec).preRow enc Tryz.prog Tryz.f5 Rows.forwardOppositeRow.domain false Rows.forwardOppositeRow.laid) (((OpenSpec.ofChange Rows.forwardOppositeSpec).at F).post enc Tryz.prog Tryz.f5 false true false false) := by
  obtain ⟨places, hx⟩ := reads os enc
  refine returnsInHanded_of_row (C := Tryz.checked) (s := OpenSpec.ofChange Rows.forwardOppositeSpec) own started (by kernel_rfl) Tryz.func5
    (witness_row_atRef (enc := enc) (C := Tryz.checked) false (laidWorld os) #[.agg #[.string ⟨#[]⟩, .int .i64 0, .string ⟨#[]⟩, .int .i64 0, .int .i64 0, .int .i64 0, .string ⟨#[]⟩, .string ⟨#[]⟩, .string ⟨#[]⟩, .string ⟨#[]⟩, .int .i64 0, .int .i64 0, .string ⟨#[]⟩, .string ⟨#[]⟩, .string ⟨#[]⟩], .string ⟨#[]⟩, .agg #[.string ⟨#[]⟩, .string ⟨#[]⟩], .agg #[.string ⟨#[]⟩, .string ⟨#[]⟩], .agg #[.string ⟨#[]⟩, .string ⟨#[]⟩]] rfl (by kernel_rfl) (by kernel_rfl) (by kernel_rfl)
      (OpenSpec.preRow_of_cond 8 hx (by kernel_rfl) (fun k hk => by cases hk) (by kernel_rfl) (laid_met os _))) ?_
  intro W base args ds gs before hval hW _ _ _ hL hS _
  exact contract H enc W base args ds gs before hval hW hL hS

theorem k_place : (Rows.forwardOppositeRow.inPlace == Tryz.prog.inPlace 5) = true := by kernel_rfl
theorem k_unf : (Rows.forwardOppositeRow.unfollowed == Tryz.prog.unfollowed 5) = true := by kernel_rfl
theorem k_rec : (Rows.forwardOppositeRow.recurses == Tryz.prog.recurses 5) = true := by kernel_rfl
theorem k_named : (Rows.forwardOppositeRow.named == Tryz.prog.varsNamed 5) = true := by kernel_rfl
theorem closed : joinedFacts Tryz.prog 5 Tryz.f5 Rows.forwardOppositeSpec Rows.forwardOppositeRow = true := by
  unfold joinedFacts
  repeat' (with_reducible refine and_t ?_ ?_)
  all_goals first | with_reducible exact pf_laid | with_reducible exact pf_maps | with_reducible exact pf_heard | with_reducible exact pf_enter | with_reducible exact k_place | with_reducible exact k_unf | with_reducible exact k_rec | with_reducible exact k_named | (rw [pf_lifts]; rfl) | (rw [pf_keys]; rfl) | kernel_rfl
theorem k_name : Tryz.prog.funcNamed "tranche/tranchelaw12.ForwardOpposite" = some 5 := by kernel_rfl
theorem k_name2 : Tryz.pinned.checked.prog.funcNamed Rows.forwardOppositeRow.func = some 5 := by kernel_rfl
theorem closed2 : joinedFacts Tryz.pinned.checked.prog 5 Tryz.f5 (OpenSpec.ofChange Rows.forwardOppositeSpec).bare Rows.forwardOppositeRow = true := Eq.mpr (by kernel_rfl) closed
set_option maxRecDepth 1000000 in
theorem said : Rows.ForwardOppositeSaid :=
  OpenClaim.holds_of_cond 5 Tryz.f5 rfl rfl rfl rfl rfl rfl rfl ⟨rfl, rfl, rfl, rfl, rfl⟩ rfl rfl rfl rfl rfl k_name2 Tryz.func5 closed2
    (of_decide_eq_true (by kernel_rfl)) (by unfold Func.isWrapper; first | (rw [if_pos (by decide +kernel)]; kernel_rfl) | (rw [if_neg (by decide +kernel)]; exact ⟨rfl, rfl⟩))
    (fun os started H enc _ F => by rw [OpenClaim.pre_eq_preRow]; exact lifted os started H enc F)

theorem plain (f : FuncId) (fn : Func) (hf : Tryz.pinned.checked.prog.funcNamed "tranche/tranchelaw12.ForwardOpposite" = some f) (hfn : Tryz.pinned.checked.prog.funcs[f]? = some fn) :
    true = Tryz.pinned.checked.prog.looks [] ∧ ∀ (j : Nat) t, fn.params[j]? = some t → Tryz.pinned.checked.prog.wantsStandIn t = false := by
  obtain rfl : f = 5 := Option.some.inj (k_name.symm.trans hf) |>.symm
  obtain rfl : fn = Tryz.f5 := (Option.some.inj (Tryz.func5.symm.trans hfn)).symm
  refine ⟨by kernel_rfl, fun j t ht => ?_⟩
  rw [Tryz.params5] at ht
  have hm := Array.mem_of_getElem? ht
  simp only [List.mem_toArray, List.mem_cons, List.not_mem_nil, or_false] at hm
  rcases hm with rfl | rfl | rfl | rfl | rfl
  · exact (show Tryz.prog.wantsStandIn 27 = false by kernel_rfl)
  · exact (show Tryz.prog.wantsStandIn 23 = false by kernel_rfl)
  · exact (show Tryz.prog.wantsStandIn 25 = false by kernel_rfl)
  · exact (show Tryz.prog.wantsStandIn 25 = false by kernel_rfl)
  · exact (show Tryz.prog.wantsStandIn 25 = false by kernel_rfl)

theorem kw : Rows.forwardOppositeRow.wfByText (OpenSpec.ofChange Rows.forwardOppositeSpec) = true := by kernel_rfl
theorem km : Tryz.pinned.checked.prog.mainIs = some (Rows.forwardOppositeCard.stood.harness.1, Rows.forwardOppositeCard.stood.harness.2.toList) := by kernel_rfl
theorem kg : false = Rows.forwardOppositeRow.goesBy Tryz.pinned.checked.prog := by kernel_rfl
end Go.Proofs.YtgnppdkeiihlfaaGreatDoor.forwardOpposite
namespace Go.Proofs.YtgnppdkeiihlfaaGreatDoor
theorem forwardOpposite_card : Rows.ForwardOppositeCardSaid :=
  Claim7.holds_tied_plain_at .later [] _ _ _ _ forwardOpposite.said (fun _ h => by cases h) forwardOpposite.kw (fun _ h => by cases h) forwardOpposite_row_tie rfl ⟨rfl, rfl⟩ forwardOpposite.km rfl forwardOpposite.plain forwardOpposite.kg
end Go.Proofs.YtgnppdkeiihlfaaGreatDoor
