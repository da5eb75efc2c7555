/-
  tranchetop.TopUndiluted: for every input the law returns true, and each argument reads afterwards as it read before. Its conditions: the listed package-level variables of Go's library start as the program's text lays them (the card ties them).
-/
import Derived.Test.YtpieeldbamklkaaGreatDoorW13
import Derived.Test.YtpieeldbamklkaaGreatDoorWWf
import Derived.Test.YtpieeldbamklkaaGreatDoorUjq
import Derived.OpenShut
import Derived.Lib.SmallJoins
import Derived.Stop.LaidErr
set_option maxRecDepth 1000000
namespace Go.Proofs.YtpieeldbamklkaaGreatDoor.topUndiluted
open Go.ChangeShapes Go.WideShapes Go.ChangeAt Go.RowKit
open Go.ChangeMaps (open_string shut_string)
theorem cells_frac:Tryz.prog.cellsOf 34=2:=by kernel_rfl
theorem glob {W:World} (h:laidMetH Tryz.prog Rows.topUndilutedRow.laid W) (hs:W.ShapedOpen Tryz.prog):GE W:=BY h hs
theorem params_ok:∀t∈Tryz.f5.params.toList,Tryz.prog.readableRec t=true/\t<Tryz.prog.types.size:=by
 rw[Tryz.params5];intro t ht;simp only[List.mem_cons,List.not_mem_nil,or_false] at ht;rcases ht with rfl<;>exact⟨by kernel_rfl,of_decide_eq_true (by kernel_rfl)⟩
theorem contract (H:Type) (enc:TypeId×Value->H) (W:World) (base:Nat) (args:Array Value) (ds gs:List (DataW H)) (before:List MemPlace)
  (hval:∀(j:Nat) t v,Tryz.f5.params[j]?=some t->args[j]?=some v->Value.okWide Tryz.prog W .any base t v)
  (hW:DataW.Whole enc Tryz.prog Tryz.f5.params.toList Rows.topUndilutedSpec.vars false W args.toList ds gs before) (hL:laidMetH Tryz.prog Rows.topUndilutedRow.laid W) (hS:W.ShapedOpen Tryz.prog) :
  Calls Tryz.prog 5 args W fun e W'=>∃v,e=.returned v/\Rows.topUndilutedSpec.post enc Tryz.prog Tryz.f5 false true false false W args v W':=by
 have hW':=hW;obtain⟨p,q,hA0,hV,rfl,hfz,hnd⟩:=hW;have hA:DataW.TrodAll enc Tryz.prog W 0 (fun _=>true) true Tryz.f5.params.toList args.toList ds p:=hA0
 rw[Tryz.params5] at hA hval;obtain⟨v0,vs0,d0,ds0,p0,q0,hargs0,rfl,rfl,h0,r0⟩:=trodAll_cons hA;obtain⟨rfl,rfl,rfl⟩:=trodAll_nil r0;obtain rfl:args=#[v0]:=by cases args;simp_all
 obtain⟨rfl,rfl⟩:=trodVars_none hV;obtain⟨A0,n0,c0,X0,e0,hn0,hc0,hm0,hS0,hI0⟩:=No (hval 0 22 v0 rfl rfl) h0;subst e0;clear hA0;simp only[List.append_nil] at hW';refine (Mb c0 (glob hL hS) hn0 hm0 hI0).mono fun e W' ⟨he,hg⟩=>?_
 subst he;exact⟨_,rfl,Mz Q3 params_ok (by kernel_rfl) Tryz.underlying4 rfl hW' rfl hg⟩
theorem reads (os:Os) {H:Type} (enc:TypeId×Value->H):∃places,DataW.whole enc Tryz.prog ((VO os).forCall (fun _ _=>0) ⟨#[],#[.slice none 0 0],[]⟩).memory Tryz.f5.params.toList Rows.topUndilutedSpec.vars false (#[.slice none 0 0]:Array Value).toList 8=some ([.nil],[],places):=
 ⟨[],by kernel_rfl⟩
theorem lifted (os:Os) (started:os.Started) (H:Type) (enc:TypeId×Value->H) (F:Stop.Interp) :
  ReturnsInHanded {} Tryz.checked os 5 .any ((OpenSpec.ofChange Rows.topUndilutedSpec).preRow enc Tryz.prog Tryz.f5 Rows.topUndilutedRow.domain false Rows.topUndilutedRow.laid) (((OpenSpec.ofChange Rows.topUndilutedSpec).at F).post enc Tryz.prog Tryz.f5 false true false false):=by
 obtain⟨places,hx⟩:=reads os enc;refine returnsInHanded_of_row (C:=Tryz.checked) (s:=OpenSpec.ofChange Rows.topUndilutedSpec) own started (by kernel_rfl) Tryz.func5
  (witness_row_atRef (enc:=enc) (C:=Tryz.checked) false (VO os) #[.slice none 0 0] rfl (by kernel_rfl) (by kernel_rfl) (by kernel_rfl)
   (OpenSpec.preRow_of_cond 8 hx (by kernel_rfl) (fun k hk=>by cases hk) (by kernel_rfl) (MB os _))) ?_
 intro W base args ds gs before hval hW _ _ _ hL hS _;exact contract H enc W base args ds gs before hval hW hL hS
theorem k_place:(Rows.topUndilutedRow.inPlace==Tryz.prog.inPlace 5)=true:=by kernel_rfl
theorem k_unf:(Rows.topUndilutedRow.unfollowed==Tryz.prog.unfollowed 5)=true:=by kernel_rfl
theorem k_rec:(Rows.topUndilutedRow.recurses==Tryz.prog.recurses 5)=true:=by kernel_rfl
theorem k_named:(Rows.topUndilutedRow.named==Tryz.prog.varsNamed 5)=true:=by kernel_rfl
theorem closed:joinedFacts Tryz.prog 5 Tryz.f5 Rows.topUndilutedSpec Rows.topUndilutedRow=true:=by
 unfold joinedFacts
 repeat' (with_reducible refine BK ?_ ?_)
 all_goals first|with_reducible exact Q3|with_reducible exact JL|with_reducible exact MC|with_reducible exact ME|with_reducible exact k_place|with_reducible exact k_unf|with_reducible exact k_rec|with_reducible exact k_named|(rw[MF];rfl)|(rw[JM];rfl)|kernel_rfl
theorem k_name:Tryz.prog.funcNamed "tranche/tranchetop.TopUndiluted" = some 5:=by kernel_rfl
theorem k_name2:Tryz.pinned.checked.prog.funcNamed Rows.topUndilutedRow.func=some 5:=by kernel_rfl
theorem closed2:joinedFacts Tryz.pinned.checked.prog 5 Tryz.f5 (OpenSpec.ofChange Rows.topUndilutedSpec).bare Rows.topUndilutedRow=true:=Eq.mpr (by kernel_rfl) closed
theorem said:Rows.TopUndilutedSaid:=
 OpenClaim.holds_of_cond 5 Tryz.f5 rfl rfl rfl rfl rfl rfl rfl ⟨rfl,rfl,rfl,rfl,rfl⟩ rfl rfl rfl rfl rfl k_name2 Tryz.func5 closed2
  (of_decide_eq_true (by kernel_rfl)) (by unfold Func.isWrapper;first|(rw[if_pos (by decide +kernel)];kernel_rfl)|(rw[if_neg (by decide +kernel)];exact⟨rfl,rfl⟩))
  (fun os started H enc _ F=>by rw[OpenClaim.pre_eq_preRow];exact lifted os started H enc F)
theorem plain (f:FuncId) (fn:Func) (hf:Tryz.pinned.checked.prog.funcNamed "tranche/tranchetop.TopUndiluted" = some f) (hfn:Tryz.pinned.checked.prog.funcs[f]?=some fn) :
  true=Tryz.pinned.checked.prog.looks []/\∀(j:Nat) t,fn.params[j]?=some t->Tryz.pinned.checked.prog.wantsStandIn t=false:=by
 obtain rfl:f=5:=Option.some.inj (k_name.symm.trans hf) |>.symm
 obtain rfl:fn=Tryz.f5:=(Option.some.inj (Tryz.func5.symm.trans hfn)).symm;refine⟨by kernel_rfl,fun j t ht=>?_⟩
 rw[Tryz.params5] at ht;have hm:=Array.mem_of_getElem? ht;simp only[List.mem_toArray,List.mem_cons,List.not_mem_nil,or_false] at hm;subst hm;exact (show Tryz.prog.wantsStandIn 22=false by kernel_rfl)
theorem kw:Rows.topUndilutedRow.wfByText (OpenSpec.ofChange Rows.topUndilutedSpec)=true:=by kernel_rfl
theorem km:Tryz.pinned.checked.prog.mainIs=some (Rows.topUndilutedCard.stood.harness.1,Rows.topUndilutedCard.stood.harness.2.toList):=by kernel_rfl
theorem kg:false=Rows.topUndilutedRow.goesBy Tryz.pinned.checked.prog:=by kernel_rfl
end Go.Proofs.YtpieeldbamklkaaGreatDoor.topUndiluted
namespace Go.Proofs.YtpieeldbamklkaaGreatDoor
theorem topUndiluted_card:Rows.TopUndilutedCardSaid:=
 Claim7.holds_tied_plain_at .later [] _ _ _ _ topUndiluted.said (fun _ h=>by cases h) topUndiluted.kw (fun _ h=>by cases h) topUndiluted_row_tie rfl ⟨rfl,rfl⟩ topUndiluted.km rfl topUndiluted.plain topUndiluted.kg
end Go.Proofs.YtpieeldbamklkaaGreatDoor
