/-
  tranchelaw10.InstrumentAlive: for every input the law returns true, and each argument reads afterwards as it read before. Its conditions: the listed package-level variables of Go's library start as the program's text lays them (the card ties them).
-/
import Derived.Test.YtdbmjbcgcajojaaGreatDoorWit
import Derived.Test.YtdbmjbcgcajojaaGreatDoorBe
import Derived.Test.YtdbmjbcgcajojaaGreatDoorOpj
import Derived.Test.YtdbmjbcgcajojaaGreatDoorLalive
import Derived.OpenShut
import Derived.Lib.SmallJoins
import Derived.Stop.LaidErr
namespace Go.Proofs.YtdbmjbcgcajojaaGreatDoor.instrumentAlive
open Go.ChangeShapes Go.WideShapes Go.ChangeAt Go.RowKit
open Go.ChangeMaps (open_string shut_string)

theorem cells_frac : Tryz.prog.cellsOf 24 = 2 := by kernel_rfl
theorem glob {W : World} (h : laidMetH Tryz.prog Rows.instrumentAliveRow.laid W) (hs : W.ShapedOpen Tryz.prog) : Glob W := by
  have h1 : laidMet Tryz.prog laidList W := h
  refine ⟨?_, Tryz.laysM145.s1_3 W hs⟩
  exact Lib.tabIs_of_head (g := 3) (by kernel_rfl) (by kernel_rfl) Tryz.underlying225 Tryz.underlying143 (by kernel_rfl) (by kernel_rfl) h1.tail.tail

theorem laidOut : laidOutB Tryz.prog = true := by kernel_rfl
theorem params_ok : ∀ t ∈ Tryz.f11.params.toList, Tryz.prog.readableRec t = true ∧ t < Tryz.prog.types.size := by
  rw [Tryz.params11]
  intro t ht
  simp only [List.mem_cons, List.not_mem_nil, or_false] at ht
  rcases ht with rfl | rfl | rfl <;> exact ⟨by kernel_rfl, of_decide_eq_true (by kernel_rfl)⟩

set_option maxRecDepth 100000 in
theorem contract (H : Type) (enc : TypeId × Value → H) (W : World) (base : Nat) (args : Array Value) (ds gs : List (DataW H)) (before : List MemPlace)
    (hval : ∀ (j : Nat) t v, Tryz.f11.params[j]? = some t → args[j]? = some v → Value.okWide Tryz.prog W .any base t v)
    (hW : DataW.Whole enc Tryz.prog Tryz.f11.params.toList Rows.instrumentAliveSpec.vars false W args.toList ds gs before) (hL : laidMetH Tryz.prog Rows.instrumentAliveRow.laid W) (hS : W.ShapedOpen Tryz.prog) :
    Calls Tryz.prog 11 args W fun e W' => ∃ v, e = .returned v ∧ Rows.instrumentAliveSpec.post enc Tryz.prog Tryz.f11 false true false false W args v W' := by
  have hW' := hW
  obtain ⟨p, q, hA0, hV, rfl, hfz, hnd⟩ := hW
  have hA : DataW.TrodAll enc Tryz.prog W 0 (fun _ => true) true Tryz.f11.params.toList args.toList ds p := hA0
  rw [Tryz.params11] at hA hval
  obtain ⟨v0, vs0, d0, ds0, p0, q0, hargs0, rfl, rfl, h0, r0⟩ := trodAll_cons hA
  obtain ⟨v1, vs1, d1, ds1, p1, q1, hargs1, rfl, rfl, h1, r1⟩ := trodAll_cons r0
  obtain ⟨v2, vs2, d2, ds2, p2, q2, hargs2, rfl, rfl, h2, r2⟩ := trodAll_cons r1
  obtain ⟨rfl, rfl, rfl⟩ := trodAll_nil r2
  obtain rfl : args = #[v0, v1, v2] := by cases args; simp_all
  obtain ⟨rfl, rfl⟩ := trodVars_none hV
  obtain ⟨A0, n0, c0, X0, e0, hn0, hc0, hm0, hI0⟩ := open_inss (hval 0 49 v0 rfl rfl) h0
  subst e0
  obtain ⟨A1, n1, c1, X1, e1, hn1, hc1, hm1, hI1⟩ := open_curs (hval 1 66 v1 rfl rfl) h1
  subst e1
  obtain ⟨n2, rfl, rfl, rfl, wn2⟩ := open_int Tryz.underlying45 (hval 2 45 v2 rfl rfl) h2
  clear hA0
  simp only [List.append_nil] at hW'
  refine (alive_law A0 X0 n0 c0 A1 X1 n1 c1 n2 W (glob hL hS) hn0 hc0 hm0 hI0 hn1 hc1 hm1 hI1).mono fun e W' ⟨he, hg⟩ => ?_
  subst he
  exact ⟨_, rfl, law_post laidOut params_ok (by kernel_rfl) Tryz.underlying4 rfl hW' rfl hg⟩

theorem reads (os : Os) {H : Type} (enc : TypeId × Value → H) : ∃ places, DataW.whole enc Tryz.prog ((laidWorld os).forCall (fun _ _ => 0) ⟨#[], #[.slice none 0 0, .slice none 0 0, .int .i64 0], []⟩).memory Tryz.f11.params.toList Rows.instrumentAliveSpec.vars false (#[.slice none 0 0, .slice none 0 0, .int .i64 0] : Array Value).toList 8 = some ([.nil, .nil, .lit (.int .i64 0)], [], places) :=
  ⟨[], by kernel_rfl⟩

set_option maxRecDepth 1000000 in
theorem lifted (os : Os) (started : os.Started) (H : Type) (enc : TypeId × Value → H) (F : Stop.Interp) :
    ReturnsInHanded {} Tryz.checked os 11 .any ((OpenSpec.ofChange Rows.instrumentAliveSpec).preRow enc Tryz.prog Tryz.f11 Rows.instrumentAliveRow.domain false Rows.instrumentAliveRow.laid) (((OpenSpec.ofChange Rows.instrumentAliveSpec).at F).post enc Tryz.prog Tryz.f11 false true false false) := by
  obtain ⟨places, hx⟩ := reads os enc
  refine returnsInHanded_of_row (C := Tryz.checked) (s := OpenSpec.ofChange Rows.instrumentAliveSpec) own started (by kernel_rfl) Tryz.func11
    (witness_row_atRef (enc := enc) (C := Tryz.checked) false (laidWorld os) #[.slice none 0 0, .slice none 0 0, .int .i64 0] rfl (by kernel_rfl) (by kernel_rfl) (by kernel_rfl)
      (OpenSpec.preRow_of_cond 8 hx (by kernel_rfl) (fun k hk => by cases hk) (by kernel_rfl) (laid_met os _))) ?_
  intro W base args ds gs before hval hW _ _ _ hL hS _
  exact contract H enc W base args ds gs before hval hW hL hS

theorem said : Rows.InstrumentAliveSaid :=
  OpenClaim.holds_of_cond 11 Tryz.f11 rfl rfl rfl rfl rfl rfl rfl ⟨rfl, rfl, rfl, rfl, rfl⟩ rfl rfl rfl rfl rfl (by kernel_rfl) Tryz.func11 (by kernel_rfl)
    (of_decide_eq_true (by kernel_rfl)) (by unfold Func.isWrapper; first | (rw [if_pos (by decide +kernel)]; kernel_rfl) | (rw [if_neg (by decide +kernel)]; exact ⟨rfl, rfl⟩))
    (fun os started H enc _ F => by rw [OpenClaim.pre_eq_preRow]; exact lifted os started H enc F)

theorem plain (f : FuncId) (fn : Func) (hf : Tryz.pinned.checked.prog.funcNamed "tranche/tranchelaw10.InstrumentAlive" = some f) (hfn : Tryz.pinned.checked.prog.funcs[f]? = some fn) :
    true = Tryz.pinned.checked.prog.looks [] ∧ ∀ (j : Nat) t, fn.params[j]? = some t → Tryz.pinned.checked.prog.wantsStandIn t = false := by
  obtain rfl : f = 11 := Option.some.inj ((show Tryz.prog.funcNamed "tranche/tranchelaw10.InstrumentAlive" = some 11 by kernel_rfl).symm.trans hf) |>.symm
  obtain rfl : fn = Tryz.f11 := (Option.some.inj (Tryz.func11.symm.trans hfn)).symm
  refine ⟨by kernel_rfl, fun j t ht => ?_⟩
  rw [Tryz.params11] at ht
  have hm := Array.mem_of_getElem? ht
  simp only [List.mem_toArray, List.mem_cons, List.not_mem_nil, or_false] at hm
  rcases hm with rfl | rfl | rfl
  · exact (show Tryz.prog.wantsStandIn 49 = false by kernel_rfl)
  · exact (show Tryz.prog.wantsStandIn 66 = false by kernel_rfl)
  · exact (show Tryz.prog.wantsStandIn 45 = false by kernel_rfl)

end Go.Proofs.YtdbmjbcgcajojaaGreatDoor.instrumentAlive
namespace Go.Proofs.YtdbmjbcgcajojaaGreatDoor
theorem instrumentAlive_card : Rows.InstrumentAliveCardSaid :=
  Claim7.holds_tied_plain_at .later [] _ _ _ _ instrumentAlive.said (fun _ h => by cases h) (by kernel_rfl) (fun _ h => by cases h) instrumentAlive_row_tie rfl ⟨rfl, rfl⟩ (by kernel_rfl) rfl instrumentAlive.plain (by kernel_rfl)
end Go.Proofs.YtdbmjbcgcajojaaGreatDoor
