/-
  tranchetop.TopActive: for every input the law returns true, and each argument reads afterwards as it read before. Its conditions: the listed package-level variables of Go's library start as the program's text lays them (the card ties them).
-/
import Derived.Test.YtpieeldbamklkaaGreatDoorA14
import Derived.Test.YtpieeldbamklkaaGreatDoorAWf
import Derived.Test.YtpieeldbamklkaaGreatDoorHjq
import Derived.OpenShut
import Derived.Lib.SmallJoins
import Derived.Stop.LaidErr
set_option maxRecDepth 1000000
namespace Go.Proofs.YtpieeldbamklkaaGreatDoor.topActive
open Go.ChangeShapes Go.WideShapes Go.ChangeAt Go.RowKit
open Go.ChangeMaps (open_string shut_string)
theorem ZbZ:Tryz.prog.cellsOf 34=2:=by kernel_rfl
theorem Zdj {W:World} (h:laidMetH Tryz.prog Rows.topActiveRow.laid W) (hs:W.ShapedOpen Tryz.prog):GE W:=ZcS h hs
theorem FX:∀t∈Tryz.f6.params.toList,Tryz.prog.readableRec t=true/\t<Tryz.prog.types.size:=by
 rw[Tryz.params6];intro t ht;simp only[List.mem_cons,List.not_mem_nil,or_false] at ht;rcases ht with rfl<;>exact⟨by kernel_rfl,of_decide_eq_true (by kernel_rfl)⟩
theorem BI (H:Type) (enc:TypeId×Value->H) (W:World) (base:Nat) (args:Array Value) (ds gs:List (DataW H)) (before:List MemPlace)
  (hval:∀(j:Nat) t v,Tryz.f6.params[j]?=some t->args[j]?=some v->Value.okWide Tryz.prog W .any base t v)
  (hW:DataW.Whole enc Tryz.prog Tryz.f6.params.toList Rows.topActiveSpec.vars false W args.toList ds gs before) (hL:laidMetH Tryz.prog Rows.topActiveRow.laid W) (hS:W.ShapedOpen Tryz.prog) :
  Calls Tryz.prog 6 args W fun e W'=>∃v,e=.returned v/\Rows.topActiveSpec.post enc Tryz.prog Tryz.f6 false true false false W args v W':=by
 have hW':=hW;obtain⟨p,q,hA0,hV,rfl,hfz,hnd⟩:=hW;have hA:DataW.TrodAll enc Tryz.prog W 0 (fun _=>true) true Tryz.f6.params.toList args.toList ds p:=hA0
 rw[Tryz.params6] at hA hval;obtain⟨v0,vs0,d0,ds0,p0,q0,hargs0,rfl,rfl,h0,r0⟩:=trodAll_cons hA;obtain⟨rfl,rfl,rfl⟩:=trodAll_nil r0;obtain rfl:args=#[v0]:=by cases args;simp_all
 obtain⟨rfl,rfl⟩:=trodVars_none hV;obtain⟨A0,n0,c0,X0,e0,hn0,hc0,hm0,hS0,hI0⟩:=FV (hval 0 74 v0 rfl rfl) h0;subst e0;clear hA0;simp only[List.append_nil] at hW';refine (FW c0 (Zdj hL hS) hn0 hm0 hS0 hI0).mono fun e W' ⟨he,hg⟩=>?_
 subst he;exact⟨_,rfl,EG Iw FX (by kernel_rfl) Tryz.underlying4 rfl hW' rfl hg⟩
theorem reads (os:Os) {H:Type} (enc:TypeId×Value->H):∃places,DataW.whole enc Tryz.prog ((Ql os).forCall (fun _ _=>0) ⟨#[],#[.slice none 0 0],[]⟩).memory Tryz.f6.params.toList Rows.topActiveSpec.vars false (#[.slice none 0 0]:Array Value).toList 8=some ([.nil],[],places):=
 ⟨[],by kernel_rfl⟩
theorem lifted (os:Os) (started:os.Started) (H:Type) (enc:TypeId×Value->H) (F:Stop.Interp) :
  ReturnsInHanded {} Tryz.checked os 6 .any ((OpenSpec.ofChange Rows.topActiveSpec).preRow enc Tryz.prog Tryz.f6 Rows.topActiveRow.domain false Rows.topActiveRow.laid) (((OpenSpec.ofChange Rows.topActiveSpec).at F).post enc Tryz.prog Tryz.f6 false true false false):=by
 obtain⟨places,hx⟩:=reads os enc;refine returnsInHanded_of_row (C:=Tryz.checked) (s:=OpenSpec.ofChange Rows.topActiveSpec) own started (by kernel_rfl) Tryz.func6
  (witness_row_atRef (enc:=enc) (C:=Tryz.checked) false (Ql os) #[.slice none 0 0] rfl (by kernel_rfl) (by kernel_rfl) (by kernel_rfl)
   (OpenSpec.preRow_of_cond 8 hx (by kernel_rfl) (fun k hk=>by cases hk) (by kernel_rfl) (EH os _))) ?_
 intro W base args ds gs before hval hW _ _ _ hL hS _;exact BI H enc W base args ds gs before hval hW hL hS
theorem ZaF:(Rows.topActiveRow.inPlace==Tryz.prog.inPlace 6)=true:=by kernel_rfl
theorem ZcT:(Rows.topActiveRow.unfollowed==Tryz.prog.unfollowed 6)=true:=by kernel_rfl
theorem ZcU:(Rows.topActiveRow.recurses==Tryz.prog.recurses 6)=true:=by kernel_rfl
theorem ZaG:(Rows.topActiveRow.named==Tryz.prog.varsNamed 6)=true:=by kernel_rfl
theorem closed:joinedFacts Tryz.prog 6 Tryz.f6 Rows.topActiveSpec Rows.topActiveRow=true:=by
 unfold joinedFacts
 repeat' (with_reducible refine Zb5 ?_ ?_)
 all_goals first|with_reducible exact Iw|with_reducible exact Aw|with_reducible exact EI|with_reducible exact EJ|with_reducible exact ZaF|with_reducible exact ZcT|with_reducible exact ZcU|with_reducible exact ZaG|(rw[EK];rfl)|(rw[Ax];rfl)|kernel_rfl
theorem Zb0:Tryz.prog.funcNamed "tranche/tranchetop.TopActive" = some 6:=by kernel_rfl
theorem ZaH:Tryz.pinned.checked.prog.funcNamed Rows.topActiveRow.func=some 6:=by kernel_rfl
theorem closed2:joinedFacts Tryz.pinned.checked.prog 6 Tryz.f6 (OpenSpec.ofChange Rows.topActiveSpec).bare Rows.topActiveRow=true:=Eq.mpr (by kernel_rfl) closed
theorem said:Rows.TopActiveSaid:=
 OpenClaim.holds_of_cond 6 Tryz.f6 rfl rfl rfl rfl rfl rfl rfl ⟨rfl,rfl,rfl,rfl,rfl⟩ rfl rfl rfl rfl rfl ZaH Tryz.func6 closed2
  (of_decide_eq_true (by kernel_rfl)) (by unfold Func.isWrapper;first|(rw[if_pos (by decide +kernel)];kernel_rfl)|(rw[if_neg (by decide +kernel)];exact⟨rfl,rfl⟩))
  (fun os started H enc _ F=>by rw[OpenClaim.pre_eq_preRow];exact lifted os started H enc F)
theorem plain (f:FuncId) (fn:Func) (hf:Tryz.pinned.checked.prog.funcNamed "tranche/tranchetop.TopActive" = some f) (hfn:Tryz.pinned.checked.prog.funcs[f]?=some fn) :
  true=Tryz.pinned.checked.prog.looks []/\∀(j:Nat) t,fn.params[j]?=some t->Tryz.pinned.checked.prog.wantsStandIn t=false:=by
 obtain rfl:f=6:=Option.some.inj (Zb0.symm.trans hf) |>.symm
 obtain rfl:fn=Tryz.f6:=(Option.some.inj (Tryz.func6.symm.trans hfn)).symm;refine⟨by kernel_rfl,fun j t ht=>?_⟩
 rw[Tryz.params6] at ht;have hm:=Array.mem_of_getElem? ht;simp only[List.mem_toArray,List.mem_cons,List.not_mem_nil,or_false] at hm;subst hm;exact (show Tryz.prog.wantsStandIn 74=false by kernel_rfl)
theorem kw:Rows.topActiveRow.wfByText (OpenSpec.ofChange Rows.topActiveSpec)=true:=by kernel_rfl
theorem km:Tryz.pinned.checked.prog.mainIs=some (Rows.topActiveCard.stood.harness.1,Rows.topActiveCard.stood.harness.2.toList):=by kernel_rfl
theorem kg:false=Rows.topActiveRow.goesBy Tryz.pinned.checked.prog:=by kernel_rfl
end Go.Proofs.YtpieeldbamklkaaGreatDoor.topActive
namespace Go.Proofs.YtpieeldbamklkaaGreatDoor
theorem topActive_card:Rows.TopActiveCardSaid:=
 Claim7.holds_tied_plain_at .later [] _ _ _ _ topActive.said (fun _ h=>by cases h) topActive.kw (fun _ h=>by cases h) topActive_row_tie rfl ⟨rfl,rfl⟩ topActive.km rfl topActive.plain topActive.kg
end Go.Proofs.YtpieeldbamklkaaGreatDoor
