/-
  tranchelaw46.TimeweightedStill: for every input the law returns true, and each argument reads afterwards as it read before. Its conditions: the listed package-level variables of Go's library start as the program's text lays them (the card ties them).
-/
import Derived.Test.YtmjglcgdcclinaaGreatDoorWf
import Derived.Test.YtmjglcgdcclinaaGreatDoorBe
import Derived.Test.YtmjglcgdcclinaaGreatDoorOpt
import Derived.Test.YtmjglcgdcclinaaGreatDoorLts
import Derived.OpenShut
import Derived.Lib.SmallJoins
import Derived.Stop.LaidErr
import Derived.SizedLaws
namespace Go.Proofs.YtmjglcgdcclinaaGreatDoor.timeweightedStill
open Go.ChangeShapes Go.WideShapes Go.ChangeAt Go.RowKit
open Go.ChangeMaps (open_string shut_string)

theorem cells_frac : Tryz.prog.cellsOf 32 = 2 := by kernel_rfl
theorem glob {W : World} (h : laidMetH Tryz.prog Rows.timeweightedStillRow.laid W) (hs : W.ShapedOpen Tryz.prog) : Glob W := by
  have h1 : laidMet Tryz.prog laidList W := h
  refine ⟨?_, Go.Proofs.cell_of_shapedOpen_int (zero := #[.int .i64 0]) (t := 3) hs (of_decide_eq_true (by kernel_rfl)) (by kernel_rfl) rfl (by kernel_rfl) (by kernel_rfl) Tryz.underlying3⟩
  exact Lib.tabIs_of_head (g := 2) (by kernel_rfl) (by kernel_rfl) Tryz.underlying264 Tryz.underlying171 (by kernel_rfl) (by kernel_rfl) h1.tail.tail

theorem params_ok : ∀ t ∈ Tryz.f5.params.toList, Tryz.prog.readableRec t = true ∧ t < Tryz.prog.types.size := by
  rw [Tryz.params5]
  intro t ht
  simp only [List.mem_cons, List.not_mem_nil, or_false] at ht
  rcases ht with rfl <;> exact ⟨by kernel_rfl, of_decide_eq_true (by kernel_rfl)⟩

theorem pnts_big {H : Type} {enc : TypeId × Value → H} {w : World} {base : Nat} {spare : Nat → Bool} {held : Bool} {A : Option Addr} {n c : Nat} {d : DataW H} {p : List MemPlace} {ts : List TypeId} (h : DataW.Trod enc Tryz.prog w base spare held 39 (.slice A n c) d p)
    (hR : (DataW.weightsEach Tryz.prog (39 :: ts) [d]).all (· ≤ reachBytes) = true) : n ≤ 3518437208883 := by
  obtain ⟨fuel, hf⟩ := h
  rcases Go.Deep.open_slice Tryz.underlying39 hf with ⟨hcs, -⟩ | ⟨a, len, cap, m, k, D, Pl, hcs, -, hl, hm, hmm, hx, hi⟩
  · have hcs : [Value.slice A n c] = [.slice none 0 0] := hcs
    injection hcs with hcs
    injection hcs with h1 h2 h3
    omega
  · have hcs : [Value.slice A n c] = [.slice (some a) len cap] := hcs
    injection hcs with hcs
    injection hcs with h1 h2 h3
    injection hx with hx1 hx2
    have hs := sized_slice hR (j := 0) (t := 39) (e := 50) rfl (congrArg some hx1) Tryz.underlying39
    rw [show Tryz.prog.bytesOf 50 = 40 by kernel_rfl, List.length_map, List.length_range] at hs
    have hr := reachBytes_lt
    have h47 : 2 ^ 47 = 140737488355328 := by decide
    generalize ((List.range (m - len)).map fun j => D (len + j)).length = s at hs
    omega

set_option maxRecDepth 100000 in
theorem contract (H : Type) (enc : TypeId × Value → H) (W : World) (base : Nat) (args : Array Value) (ds gs : List (DataW H)) (before : List MemPlace)
    (hval : ∀ (j : Nat) t v, Tryz.f5.params[j]? = some t → args[j]? = some v → Value.okWide Tryz.prog W .any base t v)
    (hW : DataW.Whole enc Tryz.prog Tryz.f5.params.toList Rows.timeweightedStillSpec.vars false W args.toList ds gs before) (hR : (DataW.weightsEach Tryz.prog (Tryz.f5.params.toList ++ (OpenSpec.ofChange Rows.timeweightedStillSpec).bare.plain.varTypes Tryz.prog) (ds ++ gs)).all (· ≤ reachBytes) = true) (hL : laidMetH Tryz.prog Rows.timeweightedStillRow.laid W) (hS : W.ShapedOpen Tryz.prog) :
    Calls Tryz.prog 5 args W fun e W' => ∃ v, e = .returned v ∧ Rows.timeweightedStillSpec.post enc Tryz.prog Tryz.f5 false true false false W args v W' := by
  have hW' := hW
  obtain ⟨p, q, hA0, hV, rfl, hfz, hnd⟩ := hW
  have hA : DataW.TrodAll enc Tryz.prog W 0 (fun _ => true) true Tryz.f5.params.toList args.toList ds p := hA0
  rw [Tryz.params5] at hA hval
  obtain ⟨v0, vs0, d0, ds0, p0, q0, hargs0, rfl, rfl, h0, r0⟩ := trodAll_cons hA
  obtain ⟨rfl, rfl, rfl⟩ := trodAll_nil r0
  obtain rfl : args = #[v0] := by cases args; simp_all
  obtain ⟨rfl, rfl⟩ := trodVars_none hV
  obtain ⟨A0, n0, c0, X0, e0, hn0, hc0, hm0, hS0, hI0⟩ := open_pnts (hval 0 39 v0 rfl rfl) h0
  subst e0
  rw [Tryz.params5] at hR
  have hbig := pnts_big h0 hR
  clear hA0 hR
  simp only [List.append_nil] at hW'
  refine (still_law A0 X0 n0 c0 W (glob hL hS) hn0 hbig hI0).mono fun e W' ⟨he, hg⟩ => ?_
  subst he
  exact ⟨_, rfl, law_post pf_laid params_ok (by kernel_rfl) Tryz.underlying4 rfl hW' rfl hg⟩

theorem reads (os : Os) {H : Type} (enc : TypeId × Value → H) : ∃ places, DataW.whole enc Tryz.prog ((laidWorld os).forCall (fun _ _ => 0) ⟨#[], #[.slice none 0 0], []⟩).memory Tryz.f5.params.toList Rows.timeweightedStillSpec.vars false (#[.slice none 0 0] : Array Value).toList 8 = some ([.nil], [], places) :=
  ⟨[], by kernel_rfl⟩

set_option maxRecDepth 1000000 in
theorem lifted (os : Os) (started : os.Started) (H : Type) (enc : TypeId × Value → H) (F : Stop.Interp) :
    ReturnsInHanded {} Tryz.checked os 5 .any ((OpenSpec.ofChange Rows.timeweightedStillSpec).preRow enc Tryz.prog Tryz.f5 Rows.timeweightedStillRow.domain false Rows.timeweightedStillRow.laid) (((OpenSpec.ofChange Rows.timeweightedStillSpec).at F).post enc Tryz.prog Tryz.f5 false true false false) := by
  obtain ⟨places, hx⟩ := reads os enc
  refine returnsInHanded_of_row (C := Tryz.checked) (s := OpenSpec.ofChange Rows.timeweightedStillSpec) own started (by kernel_rfl) Tryz.func5
    (witness_row_atRef (enc := enc) (C := Tryz.checked) false (laidWorld os) #[.slice none 0 0] rfl (by kernel_rfl) (by kernel_rfl) (by kernel_rfl)
      (OpenSpec.preRow_of_cond 8 hx (by kernel_rfl) (fun k hk => by cases hk) (by kernel_rfl) (laid_met os _))) ?_
  intro W base args ds gs before hval hW _ _ hR hL hS _
  exact contract H enc W base args ds gs before hval hW hR hL hS

theorem k_place : (Rows.timeweightedStillRow.inPlace == Tryz.prog.inPlace 5) = true := by kernel_rfl
theorem k_unf : (Rows.timeweightedStillRow.unfollowed == Tryz.prog.unfollowed 5) = true := by kernel_rfl
theorem k_rec : (Rows.timeweightedStillRow.recurses == Tryz.prog.recurses 5) = true := by kernel_rfl
theorem k_named : (Rows.timeweightedStillRow.named == Tryz.prog.varsNamed 5) = true := by kernel_rfl
theorem closed : joinedFacts Tryz.prog 5 Tryz.f5 Rows.timeweightedStillSpec Rows.timeweightedStillRow = true := by
  unfold joinedFacts
  repeat' (with_reducible refine and_t ?_ ?_)
  all_goals first | with_reducible exact pf_laid | with_reducible exact pf_maps | with_reducible exact pf_heard | with_reducible exact pf_enter | with_reducible exact k_place | with_reducible exact k_unf | with_reducible exact k_rec | with_reducible exact k_named | (rw [pf_lifts]; rfl) | (rw [pf_keys]; rfl) | kernel_rfl
theorem k_name : Tryz.prog.funcNamed "tranche/tranchelaw46.TimeweightedStill" = some 5 := by kernel_rfl
theorem k_name2 : Tryz.pinned.checked.prog.funcNamed Rows.timeweightedStillRow.func = some 5 := by kernel_rfl
theorem closed2 : joinedFacts Tryz.pinned.checked.prog 5 Tryz.f5 (OpenSpec.ofChange Rows.timeweightedStillSpec).bare Rows.timeweightedStillRow = true := Eq.mpr (by kernel_rfl) closed
set_option maxRecDepth 1000000 in
theorem said : Rows.TimeweightedStillSaid :=
  OpenClaim.holds_of_cond 5 Tryz.f5 rfl rfl rfl rfl rfl rfl rfl ⟨rfl, rfl, rfl, rfl, rfl⟩ rfl rfl rfl rfl rfl k_name2 Tryz.func5 closed2
    (of_decide_eq_true (by kernel_rfl)) (by unfold Func.isWrapper; first | (rw [if_pos (by decide +kernel)]; kernel_rfl) | (rw [if_neg (by decide +kernel)]; exact ⟨rfl, rfl⟩))
    (fun os started H enc _ F => by rw [OpenClaim.pre_eq_preRow]; exact lifted os started H enc F)

theorem plain (f : FuncId) (fn : Func) (hf : Tryz.pinned.checked.prog.funcNamed "tranche/tranchelaw46.TimeweightedStill" = some f) (hfn : Tryz.pinned.checked.prog.funcs[f]? = some fn) :
    true = Tryz.pinned.checked.prog.looks [] ∧ ∀ (j : Nat) t, fn.params[j]? = some t → Tryz.pinned.checked.prog.wantsStandIn t = false := by
  obtain rfl : f = 5 := Option.some.inj (k_name.symm.trans hf) |>.symm
  obtain rfl : fn = Tryz.f5 := (Option.some.inj (Tryz.func5.symm.trans hfn)).symm
  refine ⟨by kernel_rfl, fun j t ht => ?_⟩
  rw [Tryz.params5] at ht
  have hm := Array.mem_of_getElem? ht
  simp only [List.mem_toArray, List.mem_cons, List.not_mem_nil, or_false] at hm
  subst hm
  exact (show Tryz.prog.wantsStandIn 39 = false by kernel_rfl)

end Go.Proofs.YtmjglcgdcclinaaGreatDoor.timeweightedStill
namespace Go.Proofs.YtmjglcgdcclinaaGreatDoor
theorem timeweightedStill_card : Rows.TimeweightedStillCardSaid :=
  Claim7.holds_tied_plain_at .later [] _ _ _ _ timeweightedStill.said (fun _ h => by cases h) (by kernel_rfl) (fun _ h => by cases h) timeweightedStill_row_tie rfl ⟨rfl, rfl⟩ (by kernel_rfl) rfl timeweightedStill.plain (by kernel_rfl)
end Go.Proofs.YtmjglcgdcclinaaGreatDoor
