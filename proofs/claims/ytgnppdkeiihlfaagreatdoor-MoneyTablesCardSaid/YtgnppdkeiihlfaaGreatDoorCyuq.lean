/-
  tranchelaw05.MoneyTables: for every input the law returns true, and each argument reads afterwards as it read before. Its conditions: the listed package-level variables of Go's library start as the program's text lays them (the card ties them).
-/
import Derived.Test.YtgnppdkeiihlfaaGreatDoorM6
import Derived.Test.YtgnppdkeiihlfaaGreatDoorMWf
import Derived.Test.YtgnppdkeiihlfaaGreatDoorMBe
import Derived.Test.YtgnppdkeiihlfaaGreatDoorLyuq
import Derived.OpenShut
import Derived.Lib.SmallJoins
import Derived.Stop.LaidErr
namespace Go.Proofs.YtgnppdkeiihlfaaGreatDoor.moneyTables
open Go.ChangeShapes Go.WideShapes Go.ChangeAt Go.RowKit
open Go.ChangeMaps (open_string shut_string)

theorem cells_frac : Tryz.prog.cellsOf 25 = 2 := by kernel_rfl
theorem glob {W : World} (h : laidMetH Tryz.prog Rows.moneyTablesRow.laid W) (hs : W.ShapedOpen Tryz.prog) : Glob W := by
  have h1 : laidMet Tryz.prog laidList W := h
  refine ⟨?_, Go.Proofs.cell_of_shapedOpen_int (zero := #[.int .i64 0]) (t := 3) hs (of_decide_eq_true (by kernel_rfl)) (by kernel_rfl) rfl (by kernel_rfl) (by kernel_rfl) Tryz.underlying3⟩
  exact Lib.tabIs_of_head (g := 2) (by kernel_rfl) (by kernel_rfl) Tryz.underlying262 Tryz.underlying151 (by kernel_rfl) (by kernel_rfl) h1.tail.tail

theorem params_ok : ∀ t ∈ Tryz.f11.params.toList, Tryz.prog.readableRec t = true ∧ t < Tryz.prog.types.size := by
  rw [Tryz.params11]
  intro t ht
  simp only [List.mem_cons, List.not_mem_nil, or_false] at ht
  rcases ht with rfl | rfl <;> exact ⟨by kernel_rfl, of_decide_eq_true (by kernel_rfl)⟩

set_option maxRecDepth 100000 in
theorem contract (H : Type) (enc : TypeId × Value → H) (W : World) (base : Nat) (args : Array Value) (ds gs : List (DataW H)) (before : List MemPlace)
    (hval : ∀ (j : Nat) t v, Tryz.f11.params[j]? = some t → args[j]? = some v → Value.okWide Tryz.prog W .any base t v)
    (hW : DataW.Whole enc Tryz.prog Tryz.f11.params.toList Rows.moneyTablesSpec.vars false W args.toList ds gs before) (hL : laidMetH Tryz.prog Rows.moneyTablesRow.laid W) (hS : W.ShapedOpen Tryz.prog) :
    Calls Tryz.prog 11 args W fun e W' => ∃ v, e = .returned v ∧ Rows.moneyTablesSpec.post enc Tryz.prog Tryz.f11 false true false false W args v W' := by
  have hW' := hW
  obtain ⟨p, q, hA0, hV, rfl, hfz, hnd⟩ := hW
  have hA : DataW.TrodAll enc Tryz.prog W 0 (fun _ => true) true Tryz.f11.params.toList args.toList ds p := hA0
  rw [Tryz.params11] at hA hval
  obtain ⟨v0, vs0, d0, ds0, p0, q0, hargs0, rfl, rfl, h0, r0⟩ := trodAll_cons hA
  obtain ⟨v1, vs1, d1, ds1, p1, q1, hargs1, rfl, rfl, h1, r1⟩ := trodAll_cons r0
  obtain ⟨rfl, rfl, rfl⟩ := trodAll_nil r1
  obtain rfl : args = #[v0, v1] := by cases args; simp_all
  obtain ⟨rfl, rfl⟩ := trodVars_none hV
  obtain ⟨A0, n0, c0, X0, e0, hn0, hc0, hm0, hS0, hI0⟩ := open_curs (hval 0 61 v0 rfl rfl) h0
  subst e0
  obtain ⟨s1, rfl, rfl, rfl, ws1⟩ := open_string Tryz.underlying9 (hval 1 9 v1 rfl rfl) h1
  clear hA0
  simp only [List.append_nil] at hW'
  refine (tables5_law A0 X0 n0 c0 s1.data.toList W (glob hL hS) hn0 hc0 hm0 hI0).mono fun e W' ⟨he, hg⟩ => ?_
  subst he
  exact ⟨_, rfl, law_post pf_laid params_ok (by kernel_rfl) Tryz.underlying4 rfl hW' rfl hg⟩

theorem reads (os : Os) {H : Type} (enc : TypeId × Value → H) : ∃ places, DataW.whole enc Tryz.prog ((laidWorld os).forCall (fun _ _ => 0) ⟨#[], #[.slice none 0 0, .string ⟨#[]⟩], []⟩).memory Tryz.f11.params.toList Rows.moneyTablesSpec.vars false (#[.slice none 0 0, .string ⟨#[]⟩] : Array Value).toList 8 = some ([.nil, .lit (.string [])], [], places) :=
  ⟨[], by kernel_rfl⟩

set_option maxRecDepth 1000000 in
theorem lifted (os : Os) (started : os.Started) (H : Type) (enc : TypeId × Value → H) (F : Stop.Interp) :
    ReturnsInHanded {} Tryz.checked os 11 .any ((OpenSpec.ofChange Rows.moneyTablesSpec).preRow enc Tryz.prog Tryz.f11 Rows.moneyTablesRow.domain false Rows.moneyTablesRow.laid) (((OpenSpec.ofChange Rows.moneyTablesSpec).at F).post enc Tryz.prog Tryz.f11 false true false false) := by
  obtain ⟨places, hx⟩ := reads os enc
  refine returnsInHanded_of_row (C := Tryz.checked) (s := OpenSpec.ofChange Rows.moneyTablesSpec) own started (by kernel_rfl) Tryz.func11
    (witness_row_atRef (enc := enc) (C := Tryz.checked) false (laidWorld os) #[.slice none 0 0, .string ⟨#[]⟩] rfl (by kernel_rfl) (by kernel_rfl) (by kernel_rfl)
      (OpenSpec.preRow_of_cond 8 hx (by kernel_rfl) (fun k hk => by cases hk) (by kernel_rfl) (laid_met os _))) ?_
  intro W base args ds gs before hval hW _ _ _ hL hS _
  exact contract H enc W base args ds gs before hval hW hL hS

theorem k_place : (Rows.moneyTablesRow.inPlace == Tryz.prog.inPlace 11) = true := by kernel_rfl
theorem k_unf : (Rows.moneyTablesRow.unfollowed == Tryz.prog.unfollowed 11) = true := by kernel_rfl
theorem k_rec : (Rows.moneyTablesRow.recurses == Tryz.prog.recurses 11) = true := by kernel_rfl
theorem k_named : (Rows.moneyTablesRow.named == Tryz.prog.varsNamed 11) = true := by kernel_rfl
theorem closed : joinedFacts Tryz.prog 11 Tryz.f11 Rows.moneyTablesSpec Rows.moneyTablesRow = true := by
  unfold joinedFacts
  repeat' (with_reducible refine and_t ?_ ?_)
  all_goals first | with_reducible exact pf_laid | with_reducible exact pf_maps | with_reducible exact pf_heard | with_reducible exact pf_enter | with_reducible exact k_place | with_reducible exact k_unf | with_reducible exact k_rec | with_reducible exact k_named | (rw [pf_lifts]; rfl) | (rw [pf_keys]; rfl) | kernel_rfl
theorem k_name : Tryz.prog.funcNamed "tranche/tranchelaw05.MoneyTables" = some 11 := by kernel_rfl
theorem k_name2 : Tryz.pinned.checked.prog.funcNamed Rows.moneyTablesRow.func = some 11 := by kernel_rfl
theorem closed2 : joinedFacts Tryz.pinned.checked.prog 11 Tryz.f11 (OpenSpec.ofChange Rows.moneyTablesSpec).bare Rows.moneyTablesRow = true := Eq.mpr (by kernel_rfl) closed
set_option maxRecDepth 1000000 in
theorem said : Rows.MoneyTablesSaid :=
  OpenClaim.holds_of_cond 11 Tryz.f11 rfl rfl rfl rfl rfl rfl rfl ⟨rfl, rfl, rfl, rfl, rfl⟩ rfl rfl rfl rfl rfl k_name2 Tryz.func11 closed2
    (of_decide_eq_true (by kernel_rfl)) (by unfold Func.isWrapper; first | (rw [if_pos (by decide +kernel)]; kernel_rfl) | (rw [if_neg (by decide +kernel)]; exact ⟨rfl, rfl⟩))
    (fun os started H enc _ F => by rw [OpenClaim.pre_eq_preRow]; exact lifted os started H enc F)

theorem plain (f : FuncId) (fn : Func) (hf : Tryz.pinned.checked.prog.funcNamed "tranche/tranchelaw05.MoneyTables" = some f) (hfn : Tryz.pinned.checked.prog.funcs[f]? = some fn) :
    true = Tryz.pinned.checked.prog.looks [] ∧ ∀ (j : Nat) t, fn.params[j]? = some t → Tryz.pinned.checked.prog.wantsStandIn t = false := by
  obtain rfl : f = 11 := Option.some.inj (k_name.symm.trans hf) |>.symm
  obtain rfl : fn = Tryz.f11 := (Option.some.inj (Tryz.func11.symm.trans hfn)).symm
  refine ⟨by kernel_rfl, fun j t ht => ?_⟩
  rw [Tryz.params11] at ht
  have hm := Array.mem_of_getElem? ht
  simp only [List.mem_toArray, List.mem_cons, List.not_mem_nil, or_false] at hm
  rcases hm with rfl | rfl
  · exact (show Tryz.prog.wantsStandIn 61 = false by kernel_rfl)
  · exact (show Tryz.prog.wantsStandIn 9 = false by kernel_rfl)

theorem kw : Rows.moneyTablesRow.wfByText (OpenSpec.ofChange Rows.moneyTablesSpec) = true := by kernel_rfl
theorem km : Tryz.pinned.checked.prog.mainIs = some (Rows.moneyTablesCard.stood.harness.1, Rows.moneyTablesCard.stood.harness.2.toList) := by kernel_rfl
theorem kg : false = Rows.moneyTablesRow.goesBy Tryz.pinned.checked.prog := by kernel_rfl
end Go.Proofs.YtgnppdkeiihlfaaGreatDoor.moneyTables
namespace Go.Proofs.YtgnppdkeiihlfaaGreatDoor
theorem moneyTables_card : Rows.MoneyTablesCardSaid :=
  Claim7.holds_tied_plain_at .later [] _ _ _ _ moneyTables.said (fun _ h => by cases h) moneyTables.kw (fun _ h => by cases h) moneyTables_row_tie rfl ⟨rfl, rfl⟩ moneyTables.km rfl moneyTables.plain moneyTables.kg
end Go.Proofs.YtgnppdkeiihlfaaGreatDoor
