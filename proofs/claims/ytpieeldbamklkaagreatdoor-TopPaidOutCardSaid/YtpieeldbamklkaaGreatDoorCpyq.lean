/-
  tranchetop.TopPaidOut: for every input the law returns true, and each argument reads afterwards as it read before. Its conditions: the listed package-level variables of Go's library start as the program's text lays them (the card ties them).
-/
import Derived.Test.YtpieeldbamklkaaGreatDoorY15
import Derived.Test.YtpieeldbamklkaaGreatDoorYWf
import Derived.Test.YtpieeldbamklkaaGreatDoorPyq
import Derived.OpenShut
import Derived.Lib.SmallJoins
import Derived.Stop.LaidErr
set_option maxRecDepth 1000000
open Go.Proofs.Tryz
namespace Go.Proofs.YtpieeldbamklkaaGreatDoor.topPaidOut
open Go.ChangeShapes Go.WideShapes Go.ChangeAt Go.RowKit
open Go.ChangeMaps (open_string shut_string)
theorem ZbC:prog.cellsOf 34=2:=by kernel_rfl
theorem ZcT {W:World} (h:laidMetH prog Rows.topPaidOutRow.laid W) (hs:W.ShapedOpen prog):GE W:=Zco h hs
theorem Fs:∀t∈Tryz.f4.params.toList,prog.readableRec t=true/\t<prog.types.size:=by
 rw[params4];intro t ht;simp only[List.mem_cons,List.not_mem_nil,or_false] at ht;rcases ht with rfl|rfl<;>exact⟨by kernel_rfl,of_decide_eq_true (by kernel_rfl)⟩
theorem Cw (H:Type) (enc:TypeId×Value->H) (W:World) (base:Nat) (args:Array Value) (ds gs:List (DataW H)) (before:List MemPlace)
  (hval:∀(j:Nat) t v,Tryz.f4.params[j]?=some t->args[j]?=some v->Value.okWide prog W .any base t v)
  (hW:DataW.Whole enc prog Tryz.f4.params.toList Rows.topPaidOutSpec.vars false W args.toList ds gs before) (hL:laidMetH prog Rows.topPaidOutRow.laid W) (hS:W.ShapedOpen prog) :
  Calls prog 4 args W fun e W'=>∃v,e=.returned v/\Rows.topPaidOutSpec.post enc prog Tryz.f4 false true false false W args v W':=by
 have hW':=hW;obtain⟨p,q,hA0,hV,rfl,hfz,hnd⟩:=hW;have hA:DataW.TrodAll enc prog W 0 (fun _=>true) true Tryz.f4.params.toList args.toList ds p:=hA0
 rw[params4] at hA hval;obtain⟨v0,vs0,d0,ds0,p0,q0,hargs0,rfl,rfl,h0,r0⟩:=trodAll_cons hA;obtain⟨v1,vs1,d1,ds1,p1,q1,hargs1,rfl,rfl,h1,r1⟩:=trodAll_cons r0;obtain⟨rfl,rfl,rfl⟩:=trodAll_nil r1;obtain rfl:args=#[v0,v1]:=by cases args;simp_all
 obtain⟨rfl,rfl⟩:=trodVars_none hV;obtain⟨A0,n0,c0,X0,e0,hn0,hc0,hm0,hI0⟩:=Fp (hval 0 44 v0 rfl rfl) h0;subst e0;obtain⟨F1,P1,O1,e1,fa1,fb1,fc1,fd1,fe1,ff1,fg1⟩:=Fq (hval 1 48 v1 rfl rfl) h1;subst e1;clear hA0;simp only[List.append_nil] at hW';refine (Ie c0 (ZcT hL hS) hn0 hm0 hI0 fa1 fb1 fc1 fd1 fe1 ff1 fg1).mono fun e W' ⟨he,hg⟩=>?_
 subst he;exact⟨_,rfl,Ec Iy Fs (by kernel_rfl) underlying4 rfl hW' rfl hg⟩
theorem reads (os:Os) {H:Type} (enc:TypeId×Value->H):∃places,DataW.whole enc prog ((Qt os).forCall (fun _ _=>0) ⟨#[],#[.slice none 0 0,.agg #[.string ⟨#[]⟩,.int .i64 0,.bool false,.int .i64 0,.int .i64 0,.string ⟨#[]⟩,.string ⟨#[]⟩,.string ⟨#[]⟩,.string ⟨#[]⟩,.string ⟨#[]⟩,.string ⟨#[]⟩,.string ⟨#[]⟩,.string ⟨#[]⟩,.string ⟨#[]⟩,.string ⟨#[]⟩,.string ⟨#[]⟩,.string ⟨#[]⟩,.string ⟨#[]⟩,.slice none 0 0,.slice none 0 0,.int .i64 0]],[]⟩).memory Tryz.f4.params.toList Rows.topPaidOutSpec.vars false (#[.slice none 0 0,.agg #[.string ⟨#[]⟩,.int .i64 0,.bool false,.int .i64 0,.int .i64 0,.string ⟨#[]⟩,.string ⟨#[]⟩,.string ⟨#[]⟩,.string ⟨#[]⟩,.string ⟨#[]⟩,.string ⟨#[]⟩,.string ⟨#[]⟩,.string ⟨#[]⟩,.string ⟨#[]⟩,.string ⟨#[]⟩,.string ⟨#[]⟩,.string ⟨#[]⟩,.string ⟨#[]⟩,.slice none 0 0,.slice none 0 0,.int .i64 0]]:Array Value).toList 8=some ([.nil,.agg [.lit (.string []),.lit (.int .i64 0),.lit (.bool false),.lit (.int .i64 0),.lit (.int .i64 0),.lit (.string []),.lit (.string []),.lit (.string []),.lit (.string []),.lit (.string []),.lit (.string []),.lit (.string []),.agg [.lit (.string []),.lit (.string [])],.agg [.lit (.string []),.lit (.string [])],.agg [.lit (.string []),.lit (.string [])],.nil,.nil,.lit (.int .i64 0)]],[],places):=
 ⟨[],by kernel_rfl⟩
theorem lifted (os:Os) (started:os.Started) (H:Type) (enc:TypeId×Value->H) (F:Stop.Interp) :
  ReturnsInHanded {} Tryz.checked os 4 .any ((OpenSpec.ofChange Rows.topPaidOutSpec).preRow enc prog Tryz.f4 Rows.topPaidOutRow.domain false Rows.topPaidOutRow.laid) (((OpenSpec.ofChange Rows.topPaidOutSpec).at F).post enc prog Tryz.f4 false true false false):=by
 obtain⟨places,hx⟩:=reads os enc;refine returnsInHanded_of_row (C:=Tryz.checked) (s:=OpenSpec.ofChange Rows.topPaidOutSpec) own started (by kernel_rfl) func4
  (witness_row_atRef (enc:=enc) (C:=Tryz.checked) false (Qt os) #[.slice none 0 0,.agg #[.string ⟨#[]⟩,.int .i64 0,.bool false,.int .i64 0,.int .i64 0,.string ⟨#[]⟩,.string ⟨#[]⟩,.string ⟨#[]⟩,.string ⟨#[]⟩,.string ⟨#[]⟩,.string ⟨#[]⟩,.string ⟨#[]⟩,.string ⟨#[]⟩,.string ⟨#[]⟩,.string ⟨#[]⟩,.string ⟨#[]⟩,.string ⟨#[]⟩,.string ⟨#[]⟩,.slice none 0 0,.slice none 0 0,.int .i64 0]] rfl (by kernel_rfl) (by kernel_rfl) (by kernel_rfl)
   (OpenSpec.preRow_of_cond 8 hx (by kernel_rfl) (fun k hk=>by cases hk) (by kernel_rfl) (Ed os _))) ?_
 intro W base args ds gs before hval hW _ _ _ hL hS _;exact Cw H enc W base args ds gs before hval hW hL hS
theorem Zah:(Rows.topPaidOutRow.inPlace==prog.inPlace 4)=true:=by kernel_rfl
theorem Zcr:(Rows.topPaidOutRow.unfollowed==prog.unfollowed 4)=true:=by kernel_rfl
theorem Zcs:(Rows.topPaidOutRow.recurses==prog.recurses 4)=true:=by kernel_rfl
theorem Zai:(Rows.topPaidOutRow.named==prog.varsNamed 4)=true:=by kernel_rfl
theorem closed:joinedFacts prog 4 Tryz.f4 Rows.topPaidOutSpec Rows.topPaidOutRow=true:=by
 unfold joinedFacts
 repeat' (with_reducible refine ZbJ ?_ ?_)
 all_goals first|with_reducible exact Iy|with_reducible exact BU|with_reducible exact Ee|with_reducible exact Ef|with_reducible exact Zah|with_reducible exact Zcr|with_reducible exact Zcs|with_reducible exact Zai|(rw[Eg];rfl)|(rw[BW];rfl)|kernel_rfl
theorem ZbD:prog.funcNamed "tranche/tranchetop.TopPaidOut" = some 4:=by kernel_rfl
theorem Zaj:Tryz.pinned.checked.prog.funcNamed Rows.topPaidOutRow.func=some 4:=by kernel_rfl
theorem closed2:joinedFacts Tryz.pinned.checked.prog 4 Tryz.f4 (OpenSpec.ofChange Rows.topPaidOutSpec).bare Rows.topPaidOutRow=true:=Eq.mpr (by kernel_rfl) closed
theorem said:Rows.TopPaidOutSaid:=
 OpenClaim.holds_of_cond 4 Tryz.f4 rfl rfl rfl rfl rfl rfl rfl ⟨rfl,rfl,rfl,rfl,rfl⟩ rfl rfl rfl rfl rfl Zaj func4 closed2
  (of_decide_eq_true (by kernel_rfl)) (by unfold Func.isWrapper;first|(rw[if_pos (by decide +kernel)];kernel_rfl)|(rw[if_neg (by decide +kernel)];exact⟨rfl,rfl⟩))
  (fun os started H enc _ F=>by rw[OpenClaim.pre_eq_preRow];exact lifted os started H enc F)
theorem plain (f:FuncId) (fn:Func) (hf:Tryz.pinned.checked.prog.funcNamed "tranche/tranchetop.TopPaidOut" = some f) (hfn:Tryz.pinned.checked.prog.funcs[f]?=some fn) :
  true=Tryz.pinned.checked.prog.looks []/\∀(j:Nat) t,fn.params[j]?=some t->Tryz.pinned.checked.prog.wantsStandIn t=false:=by
 obtain rfl:f=4:=Option.some.inj (ZbD.symm.trans hf) |>.symm
 obtain rfl:fn=Tryz.f4:=(Option.some.inj (func4.symm.trans hfn)).symm;refine⟨by kernel_rfl,fun j t ht=>?_⟩
 rw[params4] at ht;have hm:=Array.mem_of_getElem? ht;simp only[List.mem_toArray,List.mem_cons,List.not_mem_nil,or_false] at hm;rcases hm with rfl|rfl
 ·exact (show prog.wantsStandIn 44=false by kernel_rfl)
 ·exact (show prog.wantsStandIn 48=false by kernel_rfl)
theorem kw:Rows.topPaidOutRow.wfByText (OpenSpec.ofChange Rows.topPaidOutSpec)=true:=by kernel_rfl
theorem km:Tryz.pinned.checked.prog.mainIs=some (Rows.topPaidOutCard.stood.harness.1,Rows.topPaidOutCard.stood.harness.2.toList):=by kernel_rfl
theorem kg:false=Rows.topPaidOutRow.goesBy Tryz.pinned.checked.prog:=by kernel_rfl
end Go.Proofs.YtpieeldbamklkaaGreatDoor.topPaidOut
namespace Go.Proofs.YtpieeldbamklkaaGreatDoor
theorem topPaidOut_card:Rows.TopPaidOutCardSaid:=
 Claim7.holds_tied_plain_at .later [] _ _ _ _ topPaidOut.said (fun _ h=>by cases h) topPaidOut.kw (fun _ h=>by cases h) topPaidOut_row_tie rfl ⟨rfl,rfl⟩ topPaidOut.km rfl topPaidOut.plain topPaidOut.kg
end Go.Proofs.YtpieeldbamklkaaGreatDoor
