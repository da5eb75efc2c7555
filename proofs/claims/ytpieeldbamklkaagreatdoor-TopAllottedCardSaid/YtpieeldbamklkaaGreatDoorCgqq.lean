/-
  tranchetop.TopAllotted: for every input the law returns true, and each argument reads afterwards as it read before. Its conditions: the listed package-level variables of Go's library start as the program's text lays them (the card ties them).
-/
import Derived.Test.YtpieeldbamklkaaGreatDoorV16
import Derived.Test.YtpieeldbamklkaaGreatDoorVWf
import Derived.Test.YtpieeldbamklkaaGreatDoorGqq
import Derived.OpenShut
import Derived.Lib.SmallJoins
import Derived.Stop.LaidErr
set_option maxRecDepth 1000000
open Go.Proofs.Tryz
namespace Go.Proofs.YtpieeldbamklkaaGreatDoor.topAllotted
open Go.ChangeShapes Go.WideShapes Go.ChangeAt Go.RowKit
open Go.ChangeMaps (open_string shut_string)
theorem Zcf:prog.cellsOf 34=2:=by kernel_rfl
theorem ZdD {W:World} (h:laidMetH prog Rows.topAllottedRow.laid W) (hs:W.ShapedOpen prog):GE W:=Zc5 h hs
theorem FU:∀t∈Tryz.f7.params.toList,prog.readableRec t=true/\t<prog.types.size:=by
 rw[params7];intro t ht;simp only[List.mem_cons,List.not_mem_nil,or_false] at ht;rcases ht with rfl|rfl|rfl|rfl<;>exact⟨by kernel_rfl,of_decide_eq_true (by kernel_rfl)⟩
theorem BW (H:Type) (enc:TypeId×Value->H) (W:World) (base:Nat) (args:Array Value) (ds gs:List (DataW H)) (before:List MemPlace)
  (hval:∀(j:Nat) t v,Tryz.f7.params[j]?=some t->args[j]?=some v->Value.okWide prog W .any base t v)
  (hW:DataW.Whole enc prog Tryz.f7.params.toList Rows.topAllottedSpec.vars false W args.toList ds gs before) (hL:laidMetH prog Rows.topAllottedRow.laid W) (hS:W.ShapedOpen prog) :
  Calls prog 7 args W fun e W'=>∃v,e=.returned v/\Rows.topAllottedSpec.post enc prog Tryz.f7 false true false false W args v W':=by
 have hW':=hW;obtain⟨p,q,hA0,hV,rfl,hfz,hnd⟩:=hW;have hA:DataW.TrodAll enc prog W 0 (fun _=>true) true Tryz.f7.params.toList args.toList ds p:=hA0
 rw[params7] at hA hval;obtain⟨v0,vs0,d0,ds0,p0,q0,hargs0,rfl,rfl,h0,r0⟩:=trodAll_cons hA;obtain⟨v1,vs1,d1,ds1,p1,q1,hargs1,rfl,rfl,h1,r1⟩:=trodAll_cons r0;obtain⟨v2,vs2,d2,ds2,p2,q2,hargs2,rfl,rfl,h2,r2⟩:=trodAll_cons r1;obtain⟨v3,vs3,d3,ds3,p3,q3,hargs3,rfl,rfl,h3,r3⟩:=trodAll_cons r2;obtain⟨rfl,rfl,rfl⟩:=trodAll_nil r3;obtain rfl:args=#[v0,v1,v2,v3]:=by cases args;simp_all
 obtain⟨rfl,rfl⟩:=trodVars_none hV;obtain⟨A0,n0,c0,X0,e0,hn0,hc0,hm0,hI0⟩:=FR (hval 0 44 v0 rfl rfl) h0;subst e0;obtain⟨F1,P1,O1,e1,fa1,fb1,fc1,fd1,fe1,ff1,fg1⟩:=FT (hval 1 48 v1 rfl rfl) h1;subst e1;obtain⟨n2,rfl,rfl,rfl,wn2⟩:=open_int underlying3 (hval 2 3 v2 rfl rfl) h2;obtain⟨n3,rfl,rfl,rfl,wn3⟩:=open_int underlying5 (hval 3 5 v3 rfl rfl) h3;clear hA0;simp only[List.append_nil] at hW';refine (MZ c0 n2 n3 (bounds_u8 wn3).1 (bounds_u8 wn3).2 (ZdD hL hS) hn0 hm0 hI0 fa1 fb1 fc1 fd1 fe1 ff1 fg1).mono fun e W' ⟨he,hg⟩=>?_
 subst he;exact⟨_,rfl,ED IF FU (by kernel_rfl) underlying4 rfl hW' rfl hg⟩
theorem reads (os:Os) {H:Type} (enc:TypeId×Value->H):∃places,DataW.whole enc prog ((Qu os).forCall (fun _ _=>0) ⟨#[],#[.slice none 0 0,.agg #[.string ⟨#[]⟩,.int .i64 0,.bool false,.int .i64 0,.int .i64 0,.string ⟨#[]⟩,.string ⟨#[]⟩,.string ⟨#[]⟩,.string ⟨#[]⟩,.string ⟨#[]⟩,.string ⟨#[]⟩,.string ⟨#[]⟩,.string ⟨#[]⟩,.string ⟨#[]⟩,.string ⟨#[]⟩,.string ⟨#[]⟩,.string ⟨#[]⟩,.string ⟨#[]⟩,.slice none 0 0,.slice none 0 0,.int .i64 0],.int .i64 0,.int .u8 0],[]⟩).memory Tryz.f7.params.toList Rows.topAllottedSpec.vars false (#[.slice none 0 0,.agg #[.string ⟨#[]⟩,.int .i64 0,.bool false,.int .i64 0,.int .i64 0,.string ⟨#[]⟩,.string ⟨#[]⟩,.string ⟨#[]⟩,.string ⟨#[]⟩,.string ⟨#[]⟩,.string ⟨#[]⟩,.string ⟨#[]⟩,.string ⟨#[]⟩,.string ⟨#[]⟩,.string ⟨#[]⟩,.string ⟨#[]⟩,.string ⟨#[]⟩,.string ⟨#[]⟩,.slice none 0 0,.slice none 0 0,.int .i64 0],.int .i64 0,.int .u8 0]:Array Value).toList 8=some ([.nil,.agg [.lit (.string []),.lit (.int .i64 0),.lit (.bool false),.lit (.int .i64 0),.lit (.int .i64 0),.lit (.string []),.lit (.string []),.lit (.string []),.lit (.string []),.lit (.string []),.lit (.string []),.lit (.string []),.agg [.lit (.string []),.lit (.string [])],.agg [.lit (.string []),.lit (.string [])],.agg [.lit (.string []),.lit (.string [])],.nil,.nil,.lit (.int .i64 0)],.lit (.int .i64 0),.lit (.int .u8 0)],[],places):=
 ⟨[],by kernel_rfl⟩
theorem lifted (os:Os) (started:os.Started) (H:Type) (enc:TypeId×Value->H) (F:Stop.Interp) :
  ReturnsInHanded {} Tryz.checked os 7 .any ((OpenSpec.ofChange Rows.topAllottedSpec).preRow enc prog Tryz.f7 Rows.topAllottedRow.domain false Rows.topAllottedRow.laid) (((OpenSpec.ofChange Rows.topAllottedSpec).at F).post enc prog Tryz.f7 false true false false):=by
 obtain⟨places,hx⟩:=reads os enc;refine returnsInHanded_of_row (C:=Tryz.checked) (s:=OpenSpec.ofChange Rows.topAllottedSpec) own started (by kernel_rfl) func7
  (witness_row_atRef (enc:=enc) (C:=Tryz.checked) false (Qu os) #[.slice none 0 0,.agg #[Zj,Zi 0,.bool false,Zi 0,Zi 0,Zj,Zj,Zj,Zj,Zj,Zj,Zj,Zj,Zj,Zj,Zj,Zj,Zj,.slice none 0 0,.slice none 0 0,Zi 0],Zi 0,.int .u8 0] rfl (by kernel_rfl) (by kernel_rfl) (by kernel_rfl)
   (OpenSpec.preRow_of_cond 8 hx (by kernel_rfl) (fun k hk=>by cases hk) (by kernel_rfl) (EE os _))) ?_
 intro W base args ds gs before hval hW _ _ _ hL hS _;exact BW H enc W base args ds gs before hval hW hL hS
theorem ZaU:(Rows.topAllottedRow.inPlace==prog.inPlace 7)=true:=by kernel_rfl
theorem Zc8:(Rows.topAllottedRow.unfollowed==prog.unfollowed 7)=true:=by kernel_rfl
theorem Zc9:(Rows.topAllottedRow.recurses==prog.recurses 7)=true:=by kernel_rfl
theorem ZaV:(Rows.topAllottedRow.named==prog.varsNamed 7)=true:=by kernel_rfl
theorem closed:joinedFacts prog 7 Tryz.f7 Rows.topAllottedSpec Rows.topAllottedRow=true:=by
 unfold joinedFacts
 repeat' (with_reducible refine Zcl ?_ ?_)
 all_goals first|with_reducible exact IF|with_reducible exact AH|with_reducible exact EF|with_reducible exact EG|with_reducible exact ZaU|with_reducible exact Zc8|with_reducible exact Zc9|with_reducible exact ZaV|(rw[EH];rfl)|(rw[AJ];rfl)|kernel_rfl
theorem Zcg:prog.funcNamed "tranche/tranchetop.TopAllotted" = some 7:=by kernel_rfl
theorem ZaW:Tryz.pinned.checked.prog.funcNamed Rows.topAllottedRow.func=some 7:=by kernel_rfl
theorem closed2:joinedFacts Tryz.pinned.checked.prog 7 Tryz.f7 (OpenSpec.ofChange Rows.topAllottedSpec).bare Rows.topAllottedRow=true:=Eq.mpr (by kernel_rfl) closed
theorem said:Rows.TopAllottedSaid:=
 OpenClaim.holds_of_cond 7 Tryz.f7 rfl rfl rfl rfl rfl rfl rfl ⟨rfl,rfl,rfl,rfl,rfl⟩ rfl rfl rfl rfl rfl ZaW func7 closed2
  (of_decide_eq_true (by kernel_rfl)) (by unfold Func.isWrapper;first|(rw[if_pos (by decide +kernel)];kernel_rfl)|(rw[if_neg (by decide +kernel)];exact⟨rfl,rfl⟩))
  (fun os started H enc _ F=>by rw[OpenClaim.pre_eq_preRow];exact lifted os started H enc F)
theorem plain (f:FuncId) (fn:Func) (hf:Tryz.pinned.checked.prog.funcNamed "tranche/tranchetop.TopAllotted" = some f) (hfn:Tryz.pinned.checked.prog.funcs[f]?=some fn) :
  true=Tryz.pinned.checked.prog.looks []/\∀(j:Nat) t,fn.params[j]?=some t->Tryz.pinned.checked.prog.wantsStandIn t=false:=by
 obtain rfl:f=7:=Option.some.inj (Zcg.symm.trans hf) |>.symm
 obtain rfl:fn=Tryz.f7:=(Option.some.inj (func7.symm.trans hfn)).symm;refine⟨by kernel_rfl,fun j t ht=>?_⟩
 rw[params7] at ht;have hm:=Array.mem_of_getElem? ht;simp only[List.mem_toArray,List.mem_cons,List.not_mem_nil,or_false] at hm;rcases hm with rfl|rfl|rfl|rfl
 ·exact (show prog.wantsStandIn 44=false by kernel_rfl)
 ·exact (show prog.wantsStandIn 48=false by kernel_rfl)
 ·exact (show prog.wantsStandIn 3=false by kernel_rfl)
 ·exact (show prog.wantsStandIn 5=false by kernel_rfl)
theorem kw:Rows.topAllottedRow.wfByText (OpenSpec.ofChange Rows.topAllottedSpec)=true:=by kernel_rfl
theorem km:Tryz.pinned.checked.prog.mainIs=some (Rows.topAllottedCard.stood.harness.1,Rows.topAllottedCard.stood.harness.2.toList):=by kernel_rfl
theorem kg:false=Rows.topAllottedRow.goesBy Tryz.pinned.checked.prog:=by kernel_rfl
end Go.Proofs.YtpieeldbamklkaaGreatDoor.topAllotted
namespace Go.Proofs.YtpieeldbamklkaaGreatDoor
theorem topAllotted_card:Rows.TopAllottedCardSaid:=
 Claim7.holds_tied_plain_at .later [] _ _ _ _ topAllotted.said (fun _ h=>by cases h) topAllotted.kw (fun _ h=>by cases h) topAllotted_row_tie rfl ⟨rfl,rfl⟩ topAllotted.km rfl topAllotted.plain topAllotted.kg
end Go.Proofs.YtpieeldbamklkaaGreatDoor
