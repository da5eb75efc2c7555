/- Texts put together: Bz Bw Tr Pw Wa Ws Ta Pt Tb Tp Td Tc Te. -/
import Derived.Test.YtpieeldbamklkaaGreatDoorY1
import Derived.Test.YtpieeldbamklkaaGreatDoorYBd
import Derived.Test.YtpieeldbamklkaaGreatDoorYCd
import Derived.OrdersIn
import Derived.TacticsIn
import Derived.RangeFuncCalls
import Derived.Deep.MidRow
import Derived.Shelf.SlicesE.Clone
import Derived.Laws.StructEq
import Derived.RangeFuncBox
import Derived.OwnWalkIn
set_option maxHeartbeats 8000000
set_option maxRecDepth 100000
open Go.Proofs.Tryz
namespace Go.Proofs.YtpieeldbamklkaaGreatDoor
open Go.RowKit
inductive U0 where
 | val (v:Value)
 | get (b:Nat) (ob:Obj) (v:Value)
 | put (b:Nat) (ob0 ob:Obj)
abbrev Fx:=Nat->Option Obj
def U0.at:U0->Value
 | .val v=>v
 | .get _ _ v=>v
 | .put _ _ _=>undef
def U0.fx (F:Fx):U0->Fx
 | .val _=>F
 | .get _ _ _=>F
 | .put b _ ob=>fun k=>if k=b then some ob else F k
def U0.pre (F:Fx):U0->Prop
 | .val _=>True
 | .get b ob _=>F b=some ob
 | .put b ob0 _=>F b=some ob0
section
variable {P:Program} {ops:Array Oper} {md:Region.Mode} {tch:Nat->List Nat} {C:World->Prop}
def Xj (md:Region.Mode) (o:Oper) (i:Nat):Prop:=∃e∈o.after,Region.binds md e=true/\e.on=i
def Xg (P:Program) (ops:Array Oper) (md:Region.Mode) (tch:Nat->List Nat) (C:World->Prop) (i:Nat) (o:Oper) (a:Act):U0->Prop
 | .val v=>(Region.wanted o (yielded ops a.tmps)=true/\∀w,C w->VZ P w v ((execOp a.eval o).run P w))∨(Region.wanted o (yielded ops a.tmps)=false/\v=undef)
 | .get b ob v=>i∈tch b/\Region.wanted o (yielded ops a.tmps)=true/\∀w,C w->w.heap[b]?=some ob->(execOp a.eval o).run P w=.ok (.value v) w
 | .put b ob0 ob=>(i∈tch b/\∀j oj,j∈tch b->j≠i->ops[j]?=some oj->Xj md o j∨Xj md oj i)/\
   Region.wanted o (yielded ops a.tmps)=true/\∀w,C w->w.heap[b]?=some ob0->∃w',(execOp a.eval o).run P w=.ok .skip w'/\YX w w' b ob
theorem Xg.of_same {i:Nat} {o:Oper} {x:U0} {a a':Act} (hy:Xg P ops md tch C i o a x) (he:execOp a'.eval o=execOp a.eval o)
  (hw:Region.wanted o (yielded ops a'.tmps)=Region.wanted o (yielded ops a.tmps)):Xg P ops md tch C i o a' x:=by
 cases x<;>simp only[Xg,he,hw] at *<;>exact hy
def OX (P:Program) (ops:Array Oper) (md:Region.Mode) (tch:Nat->List Nat) (C:World->Prop) (i:Nat) (K:Act->Fx->Prop) (a:Act) (F:Fx):Prop:=
 match ops[i]? with
 | none=>K a F
 | some o=>∃x:U0,x.pre F/\Xg P ops md tch C i o a x/\K (a.put o.dst x.at) (x.fx F)
theorem Gy {i:Nat} {a:Act} {F:Fx} {K K':Act->Fx->Prop} (h:∀a F,K a F->K' a F) (hh:OX P ops md tch C i K a F):OX P ops md tch C i K' a F:=by
 unfold OX at *
 split
 ·exact h _ _ (by simpa [*] using hh)
 ·rename_i o ho;simp only[ho] at hh;obtain⟨x,h0,h1,h2⟩:=hh;exact⟨x,h0,h1,h _ _ h2⟩
def P8 (P:Program) (md:Region.Mode) (ops:Array Oper) (tch:Nat->List Nat) (C:World->Prop) (Q:Act->Fx->Prop):Nat->Array Bool->Act->Fx->Prop
 | 0,listed,a,F=>Region.ready md ops listed=[]/\Q a F
 | fuel+1,listed,a,F=>
  (Region.ready md ops listed=[]->Q a F)/\
  ∀i∈Region.ready md ops listed,OX P ops md tch C i (P8 P md ops tch C Q fuel (listed.setIfInBounds i true)) a F
theorem ZaU {i j:Nat} {oi oj:Oper} {a a':Act} {x y:U0} (hij:i≠j) (hi:ops[i]?=some oi) (hj:ops[j]?=some oj) (n1:¬Xj md oj i) (n2:¬Xj md oi j)
  (hx:Xg P ops md tch C i oi a x) (hy:Xg P ops md tch C j oj a' y) (F:Fx) (px:x.pre F) (py:y.pre (x.fx F)) :
  y.pre F/\x.pre (y.fx F)/\y.fx (x.fx F)=x.fx (y.fx F):=by
 cases x with
 | val v=>exact⟨py,trivial,rfl⟩
 | get b ob v=>
  cases y with
  | val v'=>exact⟨trivial,px,rfl⟩
  | get b' ob' v'=>exact⟨py,px,rfl⟩
  | put b' o0 o1=>
   have hne:b'≠b:=fun e=>by
    subst e;rcases hy.1.2 i oi hx.1 hij hi with h|h
    ·exact n1 h
    ·exact n2 h
   refine⟨py,?_,rfl⟩;show (if b=b' then some o1 else F b)=_
   rw[if_neg (Ne.symm hne)];exact px
 | put b o0 o1=>
  cases y with
  | val v'=>exact⟨trivial,px,rfl⟩
  | get b' ob' v'=>
   have hne:b'≠b:=fun e=>by
    subst e;rcases hx.1.2 j oj hy.1 (Ne.symm hij) hj with h|h
    ·exact n2 h
    ·exact n1 h
   have py:(if b'=b then some o1 else F b')=some ob':=py
   rw[if_neg hne] at py;exact⟨py,px,rfl⟩
  | put b' o0' o1'=>
   have hne:b'≠b:=fun e=>by
    subst e;rcases hx.1.2 j oj hy.1.1 (Ne.symm hij) hj with h|h
    ·exact n2 h
    ·exact n1 h
   have py:(if b'=b then some o1 else F b')=some o0':=py
   rw[if_neg hne] at py;refine⟨py,?_,?_⟩
   ·show (if b=b' then some o1' else F b)=_
    rw[if_neg (Ne.symm hne)];exact px
   ·funext k
    simp only[U0.fx]
    by_cases h1:k=b'
    ·rw[if_pos h1,if_neg (fun e=>hne (h1.symm.trans e)),if_pos h1]
    ·rw[if_neg h1]
     by_cases h2:k=b
     ·rw[if_pos h2,if_pos h2]
     ·rw[if_neg h2,if_neg h2,if_neg h1]
theorem Ew {i j:Nat} {oi oj:Oper} {x:U0} (hij:i≠j) (hj:ops[j]?=some oj) (hap:oi.apart ops oj=true) (n1:¬Xj md oj i) (n2:¬Xj md oi j)
  (hsi:∀cs b,oi.op≠.select cs b) (hsj:∀cs b,oj.op≠.select cs b) {K:Act->Fx->Prop} {a:Act} {F:Fx}
  (hi:ops[i]?=some oi) (hp:x.pre F) (hy:Xg P ops md tch C i oi a x) (h:OX P ops md tch C j K (a.put oi.dst x.at) (x.fx F)) :
  OX P ops md tch C j (fun a' F'=>x.pre F'/\Xg P ops md tch C i oi a' x/\K (a'.put oi.dst x.at) (x.fx F')) a F:=by
 obtain⟨h1,h2,h3⟩:=Oper.apart_spec hap;have hj':=hj;unfold OX at *;simp only[hj] at h ⊢;obtain⟨y,hp',hy',hK⟩:=h;obtain⟨m1,m2,m3⟩:=ZaU hij hi hj' n1 n2 hy hy' F hp hp'
 refine⟨y,m1,hy'.of_same (execOp_put oj hsj a oi.dst _ h1).symm (wanted_put oj a oi.dst _ h1).symm,m2,
  hy.of_same (execOp_put oi hsi a oj.dst _ h3) (wanted_put oi a oj.dst _ h3),?_⟩
 have e1:(a.put oj.dst y.at).put oi.dst x.at=(a.put oi.dst x.at).put oj.dst y.at:=(Act.put_comm a _ _ h2).symm;rw[e1,<-m3];exact hK
theorem Ml {Q:Act->Fx->Prop} {i:Nat} {oi:Oper} {x:U0} (hi:ops[i]?=some oi) (hsel:∀(j:Nat) (o:Oper) cs b,ops[j]?=some o->o.op≠.select cs b) :
  ∀(fuel:Nat) (listed:Array Bool) (a:Act) (F:Fx),
   (∀j oj,ops[j]?=some oj->j≠i->listed.getD j true=false->(∀e∈oj.after,Region.binds md e=true->e.on≠i)->oi.apart ops oj=true)->
   i∈Region.ready md ops listed->x.pre F->Xg P ops md tch C i oi a x->
   P8 P md ops tch C Q fuel (listed.setIfInBounds i true) (a.put oi.dst x.at) (x.fx F)->P8 P md ops tch C Q (fuel+1) listed a F:=by
 intro fuel
 induction fuel with
 | zero=>
  intro listed a F _ hr hp hy H;refine⟨fun h=>(by rw[h] at hr;cases hr),fun j hj=>?_⟩
  by_cases hji:j=i
  ·subst hji;unfold OX;simp only[hi];exact⟨x,hp,hy,H⟩
  ·have:=ready_mono hj hji
   rw[H.1] at this;cases this
 | succ fuel ih=>
  intro listed a F hfree hr hp hy H;refine⟨fun h=>(by rw[h] at hr;cases hr),fun j hj=>?_⟩
  by_cases hji:j=i
  ·subst hji;unfold OX;simp only[hi];exact⟨x,hp,hy,H⟩
  ·have h1:=H.2 j (ready_mono hj hji);obtain⟨hjun,oj,hoj,hall⟩:=mem_ready.1 hj;have hnot:∀e∈oj.after,Region.binds md e=true->e.on≠i:=fun e he hb heq=>by
    have h1:=hall e he hb;have h0:=(mem_ready.1 hr).1;rw[heq] at h1;rcases Nat.lt_or_ge i listed.size with h'|h'
    ·simp[h'] at h0 h1;rw[h0] at h1;cases h1
    ·simp[Array.getElem?_eq_none h'] at h1
   have hnot2:¬Xj md oi j:=fun ⟨e,he,hb,heq⟩=>by
    obtain⟨-,oi',hoi,hall'⟩:=mem_ready.1 hr
    have:oi'=oi:=by rw[hi] at hoi;exact (Option.some.inj hoi).symm
    subst this;have h1:=hall' e he hb;rw[heq] at h1;rcases Nat.lt_or_ge j listed.size with h'|h'
    ·simp[h'] at hjun h1;rw[hjun] at h1;cases h1
    ·simp[Array.getElem?_eq_none h'] at h1
   have hnot1:¬Xj md oj i:=fun ⟨e,he,hb,heq⟩=>hnot e he hb heq
   have h2:=Ew (Ne.symm hji) hoj (hfree j oj hoj hji hjun hnot) hnot1 hnot2 (fun cs b=>hsel i oi cs b hi) (fun cs b=>hsel j oj cs b hoj) hi hp hy h1
   have hfree':∀k ok,ops[k]?=some ok->k≠i->(listed.setIfInBounds j true).getD k true=false->
     (∀e∈ok.after,Region.binds md e=true->e.on≠i)->oi.apart ops ok=true:=fun k ok hk hki hun hno=>by
    refine hfree k ok hk hki ?_ hno
    by_cases hjk:j=k
    ·subst hjk;exact hjun
    ·rw[getD_set_ne true hjk] at hun;exact hun
   refine Gy (fun a' F' h3=>ih (listed.setIfInBounds j true) a' F' hfree' (ready_mono hr (Ne.symm hji)) h3.1 h3.2.1 ?_) h2
   rw[Array.setIfInBounds_comm _ _ hji];exact h3.2.2
def YI (P:Program) (ops:Array Oper) (md:Region.Mode) (tch:Nat->List Nat) (C:World->Prop) (Q:Act->Fx->Prop):List Oper->Nat->Act->Fx->Prop
 | [],_,a,F=>Q a F
 | o::rest,i,a,F=>∃x:U0,x.pre F/\Xg P ops md tch C i o a x/\YI P ops md tch C Q rest (i+1) (a.put o.dst x.at) (x.fx F)
theorem Oc {Q:Act->Fx->Prop} (hs:Region.noSelect ops=true):∀(l:List Oper) (k:Nat) (listed:Array Bool) (a:Act) (F:Fx),(∀j,l[j]?=ops[k+j]?)->
  Region.lexFrom md ops l.length k listed=true->YI P ops md tch C Q l k a F->P8 P md ops tch C Q l.length listed a F
 | [],_,_,_,_,_,hB,h=>⟨by simpa [Region.lexFrom] using hB,h⟩
 | o::l,k,listed,a,F,hl,hB,h=>by
  have h0:ops[k]?=some o:=by simpa using (hl 0).symm
  simp only[List.length_cons,Region.lexFrom,Bool.and_eq_true] at hB;obtain⟨⟨hr,hf⟩,hB'⟩:=hB;obtain⟨x,hp,hy,hK⟩:=h;exact Ml h0 (Region.noSelect_spec hs) l.length listed a F (Region.free_spec h0 hf) (by simpa using hr) hp hy
   (Oc hs l (k+1) _ _ _ (fun j=>by have:=hl (j+1);simpa [Nat.add_assoc,Nat.add_comm 1 j] using this) hB' hK)
structure WO (X:Nat->Prop) (w0:World) (F:Fx) (w:World):Prop where
 below:Zq X w0 w
 box:∀b ob,F b=some ob->w.heap[b]?=some ob
 dom:∀b,F b≠none->X b
variable {X:Nat->Prop}
theorem WO.go {w0 w w':World} {F:Fx} (h:WO X w0 F w) (hb:Below w.heap.size w w'):WO X w0 F w':=
 ⟨⟨hb.os.trans h.below.os,hb.tape.trans h.below.tape,hb.output.trans h.below.output,Nt h.below.size hb.size,fun k hk hx=>(hb.block k (Nat.lt_of_lt_of_le hk h.below.size)).trans (h.below.block k hk hx)⟩,
  fun b ob hF=>(hb.block _ (Ag.1 (h.box b ob hF)).1).trans (h.box b ob hF),h.dom⟩
theorem WO.turn {w0 w w':World} {F:Fx} (h:WO X w0 F w) {b:Nat} {ob0 ob:Obj} (hF:F b=some ob0) (ht:YX w w' b ob):WO X w0 ((U0.put b ob0 ob).fx F) w':=by
 have hX:X b:=h.dom b (by rw[hF];simp)
 refine⟨⟨ht.os.trans h.below.os,ht.tape.trans h.below.tape,ht.output.trans h.below.output,by rw[ht.size];exact h.below.size,fun k hk hx=>(ht.old k (fun e=>hx (e ▸ hX))).trans (h.below.block k hk hx)⟩,fun k o hk=>?_,fun k hk=>?_⟩
 ·simp only[U0.fx] at hk
  by_cases hkb:k=b
  ·rw[if_pos hkb] at hk;obtain rfl:=Option.some.inj hk;rw[hkb];exact ht.new
  ·rw[if_neg hkb] at hk;exact (ht.old k hkb).trans (h.box k o hk)
 ·simp only[U0.fx] at hk
  by_cases hkb:k=b
  ·rw[hkb];exact hX
  ·rw[if_neg hkb] at hk;exact h.dom k hk
structure IH (P:Program) (G:Fence):Prop where
 fn:∀f,G.fn f
 dep:G.depth.isSome=true->False
 calls:∀{n:Nat} {f:FuncId} {args:Array Value} {w:World} {R:Ending->World->Prop},Calls P f args w R->CallsIn G n P f args w R
theorem Js:IH P Fence.wide:=⟨fun _=>trivial,fun h=>(by cases h),fun h=>callsIn_wide.2 h⟩
theorem Ll (l:Nat):IH P (Fence.wide.inRound l):=⟨fun _=>trivial,fun h=>(by cases h),fun h=>CallsIn.inRound l (callsIn_wide.2 h)⟩
theorem Z8 {G:Fence} {n:Nat} (hO:IH P G) (hdf:∀(i:Nat) (o:Oper),ops[i]?=some o->∀c,o.op≠.defer c) {w0:World} {Q:Act->Fx->Prop} {Q':Exit->Act->World->Prop} (hQ:∀a F w,WO X w0 F w->Q a F->Q' .normal a w) :
  ∀(fuel:Nat) (listed:Array Bool) (a:Act) (F:Fx) (w:World),WO X w0 F w->
  P8 P md ops tch (Zq X w0) Q fuel listed a F->wpAnyIn G n P md ops Q' fuel listed a w
 | 0,_,_,_,_,hf,h=>⟨h.1,hQ _ _ _ hf h.2⟩
 | fuel+1,listed,a,F,w,hf,h=>by
  refine⟨fun h0=>hQ _ _ _ hf (h.1 h0),fun i hi=>?_⟩
  have h1:=h.2 i hi;obtain⟨hun,o,ho,_⟩:=mem_ready.1 hi;unfold OX at h1;simp only[ho] at h1;obtain⟨x,hp,hy,hK⟩:=h1;unfold wpOpIn;simp only[ho];have hs:o.semAt G.round a.eval=execOp a.eval o:=Oper.semAt_eq _ _ _ (hdf i o ho);cases x with
  | val v=>
   simp only[Xg] at hy;rcases hy with ⟨hw,hr⟩|⟨hw,rfl⟩
   ·simp only[hw,if_true];have h3:=hr w hf.below;unfold Oper.wpIn;refine⟨fun _ _=>hO.fn _,?_⟩
    rw[hs];generalize (execOp a.eval o).run P w=r at *;cases r with
    | ok n w'=>
     cases n<;>simp only[VZ] at h3<;>simp only[Oper.uponIn]
     case value u=>
      obtain⟨e1,e2⟩:=h3;rw[e1,e2];exact Z8 hO hdf hQ fuel _ _ F w hf hK
     case skip=>
      obtain⟨e1,e2⟩:=h3;rw[e1,<-e2];exact Z8 hO hdf hQ fuel _ _ F w hf hK
     case enter f args=>
      obtain⟨e1,hc⟩:=h3;rw[e1];exact⟨fun h=>(hO.dep h).elim,hO.calls (hc.mono fun e w'' ⟨he,hw''⟩=>by subst he;exact Z8 hO hdf hQ fuel _ _ F w'' (hf.go hw'') hK)⟩
    | halt x w'=>simp only[VZ] at h3
   ·simp only[hw,Bool.false_eq_true,if_false];exact⟨fun _ _=>hO.fn _,Z8 hO hdf hQ fuel _ _ F w hf hK⟩
  | get b ob v=>
   obtain⟨-,hw,hr⟩:=hy;simp only[hw,if_true];unfold Oper.wpIn;refine⟨fun _ _=>hO.fn _,?_⟩
   rw[hs,hr w hf.below (hf.box b ob hp)];simp only[Oper.uponIn];exact Z8 hO hdf hQ fuel _ _ F w hf hK
  | put b ob0 ob=>
   obtain⟨-,hw,hr⟩:=hy;simp only[hw,if_true];obtain⟨w',hr1,hr2⟩:=hr w hf.below (hf.box b ob0 hp);unfold Oper.wpIn;refine⟨fun _ _=>hO.fn _,?_⟩
   rw[hs,hr1];simp only[Oper.uponIn];exact Z8 hO hdf hQ fuel _ _ _ w' (hf.turn hp hr2) hK
def IJ (l:List Oper):Bool:=l.all fun o=>match o.op with|.defer _=>false|_=>true
theorem VL {G:Fence} {n:Nat} (hO:IH P G) (tch:Nat->List Nat) {id:Nat} {Q:Exit->Act->World->Prop} {a:Act} {w:World} {l:List Oper} (F:Fx) (hm:P.follows .mixedOrders=true) (hB:Region.lexB .any l.toArray=true) (hd:IJ l=true)
  (hF:∀b ob,F b=some ob->w.heap[b]?=some ob)
  (h:YI P l.toArray .any tch (Zq (fun b=>F b≠none) w) (fun a' F'=>∀w',WO (fun b=>F b≠none) w F' w'->Q .normal a' w') l 0 a F):(Code.region id l.toArray true).wpIn G n P Q a w:=by
 simp only[Region.lexB,Bool.and_eq_true] at hB;refine wpIn_region_any hm ?_;have hf:WO (fun b=>F b≠none) w F { w with drawn:=w.drawn+1 }:=⟨⟨rfl,rfl,rfl,Nl _,fun _ _ _=>rfl⟩,hF,fun _ h=>h⟩
 have hdf:∀(i:Nat) (o:Oper),l.toArray[i]?=some o->∀c,o.op≠.defer c:=fun i o ho c hc=>by
  have:=(List.all_eq_true.1 hd) o (Lm (by simpa using ho))
  rw[hc] at this;cases this
 refine Z8 (tch:=tch) hO hdf (Q:=fun a' F'=>∀w',WO (fun b=>F b≠none) w F' w'->Q .normal a' w') (fun a' F' w' hf' h'=>h' w' hf') _ _ a F _ hf ?_
 have:=Oc (tch:=tch) (C:=Zq (fun b=>F b≠none) w) (md:=.any) hB.1 l 0 (Array.replicate l.toArray.size false) a F (by simp) (by simpa using hB.2) h
 simpa using this
theorem Yd (tch:Nat->List Nat) {id:Nat} {Q:Exit->Act->World->Prop} {a:Act} {w:World} {l:List Oper} (F:Fx) (hm:P.follows .mixedOrders=true) (hB:Region.lexB .any l.toArray=true) (hd:IJ l=true)
  (hF:∀b ob,F b=some ob->w.heap[b]?=some ob)
  (h:YI P l.toArray .any tch (Zq (fun b=>F b≠none) w) (fun a' F'=>∀w',WO (fun b=>F b≠none) w F' w'->Q .normal a' w') l 0 a F):(Code.region id l.toArray true).wp P Q a w:=
 wpIn_wide.1 (VL (n:=0) Js tch F hm hB hd hF h)
variable {Q:Act->Fx->Prop} {o:Oper} {rest:List Oper} {i:Nat} {a:Act} {F:Fx}
theorem Zk (v:Value) (hw:Region.wanted o (yielded ops a.tmps)=true) (h:∀w,C w->(execOp a.eval o).run P w=.ok (.value v) w)
  (hn:YI P ops md tch C Q rest (i+1) (a.put o.dst v) F):YI P ops md tch C Q (o::rest) i a F:=
 ⟨.val v,trivial,.inl ⟨hw,fun w hc=>by rw[h w hc];exact⟨rfl,rfl⟩⟩,hn⟩
theorem XX (f:FuncId) (args:Array Value) (v:Value) (hw:Region.wanted o (yielded ops a.tmps)=true) (h:∀w,C w->(execOp a.eval o).run P w=.ok (.enter f args) w)
  (hc:∀w,C w->Calls P f args w fun e w'=>e=.returned v/\Below w.heap.size w w')
  (hn:YI P ops md tch C Q rest (i+1) (a.put o.dst v) F):YI P ops md tch C Q (o::rest) i a F:=
 ⟨.val v,trivial,.inl ⟨hw,fun w hC=>by rw[h w hC];exact⟨rfl,hc w hC⟩⟩,hn⟩
theorem Xn (b:Nat) (cs:Array Value) (t:TypeId) (v:Value) (hp:F b=some (.cells cs t (0,0))) (ht:i∈tch b) (hw:Region.wanted o (yielded ops a.tmps)=true)
  (h:∀w,C w->(∀m,w.cell? ⟨b,m,none⟩=cs[m]?)->(execOp a.eval o).run P w=.ok (.value v) w)
  (hn:YI P ops md tch C Q rest (i+1) (a.put o.dst v) F):YI P ops md tch C Q (o::rest) i a F:=
 ⟨.get b _ v,hp,⟨ht,hw,fun w hc hb=>h w hc (fun m=>Zg hb m)⟩,hn⟩
theorem Xo (b j:Nat) (cs:Array Value) (x:Value) (t:TypeId) (hp:F b=some (.cells cs t (0,0))) (ht:i∈tch b)
  (hwt:∀j oj,j∈tch b->j≠i->ops[j]?=some oj->Xj md o j∨Xj md oj i) (hw:Region.wanted o (yielded ops a.tmps)=true)
  (h:∀w,C w->(∀m,w.cell? ⟨b,m,none⟩=cs[m]?)->(∀m,w.frozen? ⟨b,m,none⟩=false)->(execOp a.eval o).run P w=.ok .skip (w.setCell ⟨b,j,none⟩ x))
  (hn:YI P ops md tch C Q rest (i+1) (a.put o.dst undef) (fun k=>if k=b then some (.cells (cs.setIfInBounds j x) t (0,0)) else F k)):YI P ops md tch C Q (o::rest) i a F:=
 ⟨.put b (.cells cs t (0,0)) (.cells (cs.setIfInBounds j x) t (0,0)),hp,⟨⟨ht,hwt⟩,hw,fun w hc hb=>
  ⟨_,h w hc (fun m=>Zg hb m) (fun m=>Zn hb m),Wt w b j cs x t hb⟩⟩,hn⟩
theorem Xp {w:World} {R:Exit->Act->World->Prop} {X:Nat->Prop} (h:∀w',WO X w F w'->R .normal a w'):YI P ops md tch C (fun a' F'=>∀w',WO X w F' w'->R .normal a' w') [] i a F:=h
end
def Mm (md:Region.Mode) (o:Oper) (i:Nat):Bool:=o.after.any fun e=>Region.binds md e&&e.on==i
theorem QV {md:Region.Mode} {o:Oper} {i:Nat} (h:Mm md o i=true):Xj md o i:=by
 unfold Mm at h;obtain⟨k,hk,hb⟩:=Array.any_eq_true.1 h;simp only[Bool.and_eq_true,beq_iff_eq] at hb;exact⟨o.after[k],Array.getElem_mem hk,hb.1,hb.2⟩
def ZaV (md:Region.Mode) (ops:Array Oper) (o:Oper) (i:Nat) (l:List Nat):Bool:=l.all fun j=>j==i||(match ops[j]? with|none=>true|some oj=>Mm md o j||Mm md oj i)
theorem ZO {md:Region.Mode} {ops:Array Oper} {o:Oper} {i:Nat} {l:List Nat} (h:ZaV md ops o i l=true):∀j oj,j∈l->j≠i->ops[j]?=some oj->Xj md o j∨Xj md oj i:=fun j oj hj hn ho=>by
 have:=List.all_eq_true.1 h j hj
 rw[ho] at this;simp only[Bool.or_eq_true,beq_iff_eq] at this;rcases this with e|e|e
 ·exact absurd e hn
 ·exact .inl (QV e)
 ·exact .inr (QV e)
theorem Zq.trans {X:Nat->Prop} {w w1 w2:World} (h:Zq X w w1) (h2:Zq X w1 w2):Zq X w w2:=
 ⟨h2.os.trans h.os,h2.tape.trans h.tape,h2.output.trans h.output,Nt h.size h2.size,fun k hk hx=>(h2.block k (Nat.lt_of_lt_of_le hk h.size) hx).trans (h.block k hk hx)⟩
theorem Zq.of_below {X:Nat->Prop} {w w':World} (h:Below w.heap.size w w'):Zq X w w':=⟨h.os,h.tape,h.output,h.size,fun k hk _=>h.block k hk⟩
theorem Zq.refl (X:Nat->Prop) (w:World):Zq X w w:=⟨rfl,rfl,rfl,Nl _,fun _ _ _=>rfl⟩
theorem ZQ {X:Nat->Prop} {g:Nat} (hg:X g):∀(vs:List Value) (o:Nat) (w:World),Zq X w (w.setCells g o vs)
 | [],_,w=>Zq.refl X w
 | v::r,o,w=>by
  have h1:Zq X w (w.setCell ⟨g,o,none⟩ v):=⟨rfl,rfl,rfl,by simp,fun k _ hx=>Below.heap_setCell w ⟨g,o,none⟩ v k (fun e=>hx (by rw[show k=g from e];exact hg))⟩
  exact h1.trans (ZQ hg r (o+1) _)
theorem Zaq {B:Nat} {a w:World} (h:Below B a w):Below B a w.drew:=⟨h.os,h.tape,h.output,h.size,h.block⟩
theorem ZG (w:World) (o:Obj):(w.alloc o).heap[w.heap.size]?=some o:=by simp[World.alloc,-World.alloc_eq]
def Xq (cs:Array Value) (o:Nat):List Value->Array Value
 | []=>cs
 | v::r=>Xq (cs.setIfInBounds o v) (o+1) r
theorem Oo:∀(vs:List Value) (cs:Array Value) (o:Nat),(Xq cs o vs).size=cs.size
 | [],_,_=>rfl
 | v::r,cs,o=>by unfold Xq;rw[Oo r];simp
theorem YX.refl {w:World} {b:Nat} {ob:Obj} (h:w.heap[b]?=some ob):YX w w b ob:=⟨rfl,rfl,rfl,rfl,h,fun _ _=>rfl⟩
theorem YX.trans {w w1 w2:World} {b:Nat} {o1 o2:Obj} (h:YX w w1 b o1) (k:YX w1 w2 b o2):YX w w2 b o2:=
 ⟨k.os.trans h.os,k.tape.trans h.tape,k.output.trans h.output,k.size.trans h.size,k.new,fun j hj=>(k.old j hj).trans (h.old j hj)⟩
theorem VM (b:Nat) (t:TypeId):∀(vs:List Value) (o:Nat) (cs:Array Value) (w:World),w.heap[b]?=some (.cells cs t (0,0))->YX w (w.setCells b o vs) b (.cells (Xq cs o vs) t (0,0))
 | [],_,_,_,h=>YX.refl h
 | v::r,o,cs,w,h=>by
  have h1:=Wt w b o cs v t h;exact h1.trans (VM b t r (o+1) _ _ h1.new)
section
variable {P:Program} {ops:Array Oper} {md:Region.Mode} {tch:Nat->List Nat} {C:World->Prop} {Q:Act->Fx->Prop} {o:Oper} {rest:List Oper} {i:Nat} {a:Act} {F:Fx}
theorem XY (b j:Nat) (cs:Array Value) (vs:List Value) (t:TypeId) (hp:F b=some (.cells cs t (0,0))) (ht:i∈tch b)
  (hwt:∀j oj,j∈tch b->j≠i->ops[j]?=some oj->Xj md o j∨Xj md oj i) (hw:Region.wanted o (yielded ops a.tmps)=true)
  (h:∀w,C w->(∀m,w.cell? ⟨b,m,none⟩=cs[m]?)->(∀m,w.frozen? ⟨b,m,none⟩=false)->(execOp a.eval o).run P w=.ok .skip (w.setCells b j vs))
  (hn:YI P ops md tch C Q rest (i+1) (a.put o.dst undef) (fun k=>if k=b then some (.cells (Xq cs j vs) t (0,0)) else F k)):YI P ops md tch C Q (o::rest) i a F:=
 ⟨.put b (.cells cs t (0,0)) (.cells (Xq cs j vs) t (0,0)),hp,⟨⟨ht,hwt⟩,hw,fun w hc hb=>
  ⟨_,h w hc (fun m=>Zg hb m) (fun m=>Zn hb m),VM b t vs j cs w hb⟩⟩,hn⟩
end
theorem ZH {P:Program} {e:Operand->Value} {o:Oper} {w:World} (ty:TypeId) (x:Operand) (ho:o.op=.load ty x) (b k:Nat) (hx:e x=.pointer (some ⟨b,k,none⟩)) (cs:List Value) (d:TypeDesc) (hc:w.rangeAt b k cs)
  (hu:P.underlying ty=some d) (hd:d.isRow=true) (hi:(P.info? ty).map (·.size)=some cs.length):(execOp e o).run P w=.ok (.value (.agg cs.toArray)) w:=by
 unfold execOp;simp only[ho,hx,Instr.loadAt,Instr.sureAddr,Sem.run_bind,Sem.run_pure,Result.andThen_ok,run_loadVar_mid w b k ty cs d hc hu hd hi]
theorem ZZ {P:Program} {e:Operand->Value} {o:Oper} {w:World} (ty:TypeId) (x y:Operand) (ho:o.op=.store ty x y) (b k:Nat) (cells:Array Value) (hx:e x=.pointer (some ⟨b,k,none⟩)) (hy:e y=.agg cells)
  (ht:w.there b k cells.size) (hi:(P.info? ty).map (·.size)=some cells.size) (h1:cells.all (·.oneCell')=true):(execOp e o).run P w=.ok .skip (w.setCells b k cells.toList):=by
 unfold execOp;simp only[ho,hx,hy,Instr.storeAt,Instr.sureAddr,Sem.run_bind,Sem.run_pure,Result.andThen_ok,run_storeVar_mid w b k ty cells ht hi h1]
section
variable {P:Program} {md:Region.Mode} {F:Fence} {n:Nat}
theorem Oper.wpIn_mono2 {o:Oper} {a:Act} {w:World} {K K':Act->World->Prop} {Q Q':Exit->Act->World->Prop} (h:∀a w,K a w->K' a w) (hp:∀c a w,Q (.panic c) a w->Q' (.panic c) a w) (hl:LetsOut Q->LetsOut Q')
  (hh:o.wpIn F n P a w K Q):o.wpIn F n P a w K' Q':=by
 unfold Oper.wpIn at *;refine⟨hh.1,?_⟩;have hh:=hh.2;generalize (o.semAt F.round a.eval).run P w=r at *;cases r with
 | ok x w'=>
  cases x<;>simp only[Oper.uponIn] at hh ⊢ <;>
   first
    | exact h _ _ hh
    | exact⟨hh.1,CallsIn.mono hh.2 (fun e w'' he=>by cases e<;>first|exact h _ _ he|exact hp _ _ _ he|exact hl he)⟩
    | exact⟨hh.1,RowsIn.mono hh.2 (fun _ _ he=>h _ _ he)⟩
    | exact⟨hh.1,RoundIn.mono hh.2 (fun e w'' he=>by cases e<;>first|exact h _ _ he|exact hp _ _ _ he|exact hl he)⟩
 | halt x w'=>
  cases x<;>simp only[Oper.uponIn] at hh ⊢<;>first
   | exact hp _ _ _ hh
   | exact hh
def YY (Q:Act->World->Prop):Exit->Act->World->Prop:=fun e a w=>e=.normal/\Q a w
theorem Gz {row:String} {args:Array Value} {w:World} {R:Value->World->Prop} (h:Rows P row args w R):RowsIn Fence.wide n P row args w R:=
 fun c cs _=>let ⟨v,w',r,s⟩:=h c cs;⟨v,w',r,stepsIn_wide.2 s⟩
theorem Jt {o:Oper} {a:Act} {w:World} {K K':Act->World->Prop} {Q0:Act->World->Prop} {Q:Exit->Act->World->Prop} (hk:∀a w,K a w->K' a w) (h:o.wp P a w K (YY Q0)):o.wpIn Fence.wide n P a w K' Q:=by
 unfold Oper.wp at h;unfold Oper.wpIn;refine⟨fun _ _=>trivial,?_⟩
 have e:o.semAt Fence.wide.round a.eval=execOp a.eval o:=rfl;rw[e];generalize (execOp a.eval o).run P w=r at *;cases r with
 | ok x w'=>
  cases x<;>simp only[Oper.upon,Oper.uponIn] at h ⊢ <;>
   first
    | exact hk _ _ h
    | exact⟨fun h=>(by cases h),callsIn_wide.2 (Calls.mono h (fun e w'' he=>by
      cases e<;>first
       | exact hk _ _ he
       | exact absurd he.1 (by simp)
       | (obtain⟨_,_,hx⟩:=he;exact absurd hx.1 (by simp))))⟩
    | exact⟨fun h=>(by cases h),Gz (Rows.mono h (fun _ _ he=>hk _ _ he))⟩
    | exact absurd h (by simp)
 | halt x w'=>
  cases x<;>simp only[Oper.upon,Oper.uponIn] at h ⊢<;>first
   | exact absurd h.1 (by simp)
   | exact h
theorem WZ {ops:Array Oper} {Q0:Act->World->Prop} {Q:Exit->Act->World->Prop} (hq:∀a w,Q0 a w->Q .normal a w):∀(fuel:Nat) (listed:Array Bool) (a:Act) (w:World),wpAny P md ops (YY Q0) fuel listed a w->wpAnyIn Fence.wide n P md ops Q fuel listed a w
 | 0,listed,a,w,h=>⟨h.1,hq _ _ h.2.2⟩
 | fuel+1,listed,a,w,h=>by
  refine⟨fun h0=>hq _ _ (h.1 h0).2,fun i hi=>?_⟩
  have h1:=h.2 i hi;unfold wpOp at h1;unfold wpOpIn;cases ho:ops[i]? with
  | none=>simp only[ho] at h1 ⊢;exact WZ hq fuel _ _ _ h1
  | some o=>
   simp only[ho] at h1 ⊢
   split
   ·rename_i hw;simp only[hw,if_true] at h1;rcases h1 with h1|⟨_,_,_,h1⟩
    ·exact Jt (fun a w hk=>WZ hq fuel _ _ _ hk) h1
    ·exact absurd h1.1 (by simp)
   ·rename_i hw;simp only[hw] at h1;exact⟨fun _ _=>trivial,WZ hq fuel _ _ _ h1⟩
theorem SO {L:List Oper} {st:Oper} {Q:Exit->Act->World->Prop} (hU:YE md L st=true) (hg:st.guard=none) (hgs:∀o∈L,o.guard=none) :
  ∀(fuel:Nat) (listed listed0:Array Bool) (a:Act) (w:World),Tw L st md listed listed0->
  wpAnyIn F n P md L.toArray (Exit.then (wpListIn F n P (L++[st]).toArray Q [st]) Q) fuel listed0 a w->wpAnyIn F n P md (L++[st]).toArray Q (fuel+1) listed a w:=by
 have lo:LetsOut (Exit.then (wpListIn F n P (L++[st]).toArray Q [st]) Q)->LetsOut Q:=fun ⟨a,w,h⟩=>⟨a,w,h⟩
 have fin:∀(fuel:Nat) (listed listed0:Array Bool) (a:Act) (w:World),Tw L st md listed listed0->(∀j,j<L.length->listed0.getD j true=true)->wpListIn F n P (L++[st]).toArray Q [st] a w->
   wpOpIn F n P (L++[st]).toArray Q L.length (wpAnyIn F n P md (L++[st]).toArray Q fuel (listed.setIfInBounds L.length true)) a w:=by
  intro fuel listed listed0 a w t hall h;have hnone:Region.ready md (L++[st]).toArray (listed.setIfInBounds L.length true)=[]:=by
   apply List.eq_nil_iff_forall_not_mem.2;intro j hj;have hj0:=(mem_ready.1 hj).1
   by_cases hjl:j=L.length
   ·subst hjl;simp[t.s] at hj0
   ·have hlt:j<L.length:=by
     obtain⟨o,ho,_⟩:=(mem_ready.1 hj).2
     have:=(Ag.1 ho).1;simp at this;omega
    rw[getD_set_ne true (by omega),t.same j hlt,hall j hlt] at hj0;cases hj0
  have hK:∀a w,Q .normal a w->wpAnyIn F n P md (L++[st]).toArray Q fuel (listed.setIfInBounds L.length true) a w:=by
   intro a w hq;cases fuel with
   | zero=>exact⟨hnone,hq⟩
   | succ m=>exact⟨fun _=>hq,fun j hj=>by rw[hnone] at hj;cases hj⟩
  unfold wpListIn at h;unfold wpOpIn;simp only[List.getElem?_toArray,List.getElem?_append_right (Nl _),Nat.sub_self,List.getElem?_cons_zero];simp only[Ya hg,if_true] at h ⊢;exact Oper.wpIn_mono (fun a w h=>hK a w h) h
 intro fuel
 induction fuel with
 | zero=>
  intro listed listed0 a w t h;have hall:=t.all hU h.1;refine⟨fun h0=>?_,fun i hi=>?_⟩
  ·have:=t.ready_last hU hall;rw[h0] at this;cases this
  ·by_cases hil:i<L.length
   ·have:=t.ready hU hil hi;rw[h.1] at this;cases this
   ·have hi2:i=L.length:=by
     obtain⟨o,ho,_⟩:=(mem_ready.1 hi).2
     have:=(Ag.1 ho).1;simp at this;omega
    subst hi2;exact fin 0 _ _ _ _ t hall h.2
 | succ fuel ih=>
  intro listed listed0 a w t h;refine⟨fun h0=>?_,fun i hi=>?_⟩
  ·have hr0:Region.ready md L.toArray listed0=[]:=by
    apply List.eq_nil_iff_forall_not_mem.2;intro j hj;obtain⟨j0,o,ho,hall⟩:=mem_ready.1 hj;have hjl:j<L.length:=by have:=(Ag.1 ho).1;simpa using this
    have:j∈Region.ready md (L++[st]).toArray listed:=by
     rw[mem_ready];have ho2:(L++[st])[j]?=some o:=by rw[List.getElem?_append_left hjl];simpa using ho
     refine⟨by rw[t.same j hjl];exact j0,o,by simpa using ho2,fun e he hb=>?_⟩
     have h2:=Xi hU ho2 e he hb;have h3:=hall e he hb;rw[<-Wr (by rw[t.s];omega),t.same e.on (by omega),Wr (by rw[t.s0];omega)]
     exact h3
    rw[h0] at this;cases this
   have:=t.ready_last hU (t.all hU hr0);rw[h0] at this;cases this
  ·by_cases hil:i<L.length
   ·have hi0:=t.ready hU hil hi;have h1:=h.2 i hi0;have t':=t.step hU hil hi;obtain⟨hun,o,ho,_⟩:=mem_ready.1 hi0;have hoL:o∈L:=by
     have:L[i]?=some o:=by simpa using ho
     exact Lm this
    have ho2:(L++[st]).toArray[i]?=some o:=by
     have:(L++[st])[i]?=some o:=by rw[List.getElem?_append_left hil];simpa using ho
     simpa using this
    unfold wpOpIn at h1 ⊢;simp only[ho,ho2,Ya (hgs o hoL),if_true] at h1 ⊢;exact Oper.wpIn_mono2 (fun a w h=>ih _ _ _ _ t' h) (fun _ _ _ h=>h) lo h1
   ·have hi2:i=L.length:=by
     obtain⟨o,ho,_⟩:=(mem_ready.1 hi).2
     have:=(Ag.1 ho).1;simp at this;omega
    subst hi2;have hall:=t.of_last hU hi;have hr0:Region.ready md L.toArray listed0=[]:=by
     apply List.eq_nil_iff_forall_not_mem.2;intro j hj;obtain⟨j0,o,ho,_⟩:=mem_ready.1 hj;have hjl:j<L.length:=by have:=(Ag.1 ho).1;simpa using this
     rw[hall j hjl] at j0;cases j0
    exact fin (fuel+1) _ _ _ _ t hall (h.1 hr0)
theorem SP {id:Nat} {Q:Exit->Act->World->Prop} {a:Act} {w:World} {l:List Oper} {s1 s2:Oper} (hm:P.follows .mixedOrders=true) (hB:Region.lexB .any l.toArray=true) (hU1:YE .any l s1=true) (hU2:YE .any (l++[s1]) s2=true) (hg:(l++[s1]++[s2]).all (fun o=>o.guard.isNone)=true)
  (h:Z6 P l.toArray (fun w'=>Below w.heap.size w w') (fun a' B=>∀ρ w',Fits w ρ B w'->wpListIn Fence.wide n P (l++[s1]++[s2]).toArray Q [s1,s2] (a' ρ) w') l 0 (fun _=>a) (fun _=>none)):(Code.region id (l++[s1]++[s2]).toArray true).wpIn Fence.wide n P Q a w:=by
 simp only[Region.lexB,Bool.and_eq_true] at hB;have hgs:∀o∈l++[s1]++[s2],o.guard=none:=fun o ho=>by
  have:=(List.all_eq_true.1 hg) o ho
  simpa using this
 refine wpIn_region_any hm ?_;have hf:Fits w (fun _=>0) (fun _=>none) { w with drawn:=w.drawn+1 }:=
  ⟨⟨rfl,rfl,rfl,Nl _,fun _ _=>rfl⟩,fun _ _ _ h=>(by cases h),fun _ _ h=>absurd rfl h⟩
 have h1:=Vr (C:=fun w'=>Below w.heap.size w w') (md:=.any) hB.1 l 0 (Array.replicate l.toArray.size false) (fun _=>a) (fun _=>none) (by simp) (by simpa using hB.2) h
 have g1:s1.guard=none:=hgs s1 (by simp)
 have g2:s2.guard=none:=hgs s2 (by simp)
 have h2:=ZX (P:=P) (md:=.any) (Q:=fun a' B=>∀ρ w',Fits w ρ B w'->wpListIn Fence.wide n P (l++[s1]++[s2]).toArray Q [s1,s2] (a' ρ) w') (Q':=YY (wpListIn Fence.wide n P (l++[s1]).toArray (Exit.then (wpListIn Fence.wide n P (l++[s1]++[s2]).toArray Q [s2]) Q) [s1])) (fun a' B ρ w' hf' h'=>by
  have h3:wpListIn Fence.wide n P (l++[s1]++[s2]).toArray Q [s1,s2] (a' ρ) w':=h' ρ w' hf';refine⟨rfl,?_⟩;rw[wpListIn] at h3 ⊢;simp only[Ya g1,if_true] at h3 ⊢
  exact Oper.wpIn_mono2 (fun a w h=>h) (fun _ _ _ h=>h) (fun ⟨a,w,h⟩=>⟨a,w,h⟩) h3) l.toArray.size _ (fun _=>a) (fun _=>none) (fun _=>0) _ hf (fun _ _ _ _=>rfl) (by simpa using h1)
 have h2b:=WZ (P:=P) (md:=.any) (n:=n) (Q:=Exit.then (wpListIn Fence.wide n P (l++[s1]).toArray (Exit.then (wpListIn Fence.wide n P (l++[s1]++[s2]).toArray Q [s2]) Q) [s1]) (Exit.then (wpListIn Fence.wide n P (l++[s1]++[s2]).toArray Q [s2]) Q)) (fun a w h=>h) _ _ _ _ h2
 have h3:=SO (P:=P) (md:=.any) (F:=Fence.wide) (n:=n) hU1 g1 (fun o ho=>hgs o (by simp[ho])) _ _ _ a _ (Vv l s1) h2b
 have h4:=SO (P:=P) (md:=.any) (F:=Fence.wide) (n:=n) hU2 g2 (fun o ho=>hgs o (List.mem_append_left _ ho)) _ _ _ a _ (Vv (l++[s1]) s2) h3
 simpa using h4
theorem Vw {id:Nat} {Q:Exit->Act->World->Prop} {a:Act} {w:World} {L:List Oper} (hne:L≠[]) (hne2:L.dropLast≠[]) (hm:P.follows .mixedOrders=true) (hB:Region.lexB .any L.dropLast.dropLast.toArray=true) (hU1:YE .any L.dropLast.dropLast (L.dropLast.getLast hne2)=true) (hU2:YE .any L.dropLast (L.getLast hne)=true) (hg:L.all (fun o=>o.guard.isNone)=true)
  (h:Z6 P L.dropLast.dropLast.toArray (fun w'=>Below w.heap.size w w') (fun a' B=>∀ρ w',Fits w ρ B w'->wpListIn Fence.wide n P L.toArray Q [L.dropLast.getLast hne2,L.getLast hne] (a' ρ) w') L.dropLast.dropLast 0 (fun _=>a) (fun _=>none)):(Code.region id L.toArray true).wpIn Fence.wide n P Q a w:=by
 have e1:L.dropLast.dropLast++[L.dropLast.getLast hne2]=L.dropLast:=List.dropLast_concat_getLast hne2;have e2:L.dropLast++[L.getLast hne]=L:=List.dropLast_concat_getLast hne
 have:=SP (P:=P) (n:=n) (id:=id) (Q:=Q) (a:=a) (w:=w) (l:=L.dropLast.dropLast) (s1:=L.dropLast.getLast hne2) (s2:=L.getLast hne) hm hB hU1 (by rw[e1];exact hU2) (by rw[e1,e2];exact hg) (by rw[e1,e2];exact h)
 rwa [e1,e2] at this
end
open Num
theorem Ju (c:Int):(c<0/\Zy c 0 = -1)∨(c=0/\Zy c 0=0)∨(0<c/\Zy c 0=1):=by
 unfold Zy
 by_cases h:c<0
 ·left;exact⟨h,if_pos h⟩
 ·by_cases h2:0<c
  ·right;right;exact⟨h2,by rw[if_neg h,if_pos h2]⟩
  ·right;left;exact⟨by omega,by rw[if_neg h,if_neg h2]⟩
def B3 (w:World) (f:Nat) (args:Array Value) (v:Value):Prop:=∀w':World,Below w.heap.size w w'->Calls prog f args w' fun e w''=>e=.returned v/\Below w'.heap.size w' w''
theorem B3.of {w w':World} {f:Nat} {args:Array Value} {v:Value} (h:B3 w f args v) (_:Z5 w) (hb:Below w.heap.size w w'):Calls prog f args w' fun e w''=>e=.returned v/\Below w'.heap.size w' w'':=h w' hb
structure Pnt where
 day:Int
 vl:List UInt8
 fl:List UInt8
def Nm (w:World) (A:Option Addr) (ts:List Pnt):Prop:=∀i t,ts[i]?=some t->∃b o,A=some ⟨b,o,none⟩/\b<w.heap.size/\w.cell? ⟨b,o+i*3,none⟩=some (.int .i64 t.day)/\w.cell? ⟨b,o+i*3+1,none⟩=some (.string ⟨t.vl.toArray⟩)/\w.cell? ⟨b,o+i*3+2,none⟩=some (.string ⟨t.fl.toArray⟩)
theorem Nm.below {w w':World} {A:Option Addr} {ts:List Pnt} (h:Nm w A ts) (hb:Below w.heap.size w w'):Nm w' A ts:=fun i t ht=>by
 obtain⟨b,o,h0,h1,h2,h3,h4⟩:=h i t ht;exact⟨b,o,h0,Nat.lt_of_lt_of_le h1 hb.size,(hb.cell (p:=⟨b,o+i*3,none⟩) h1).trans h2,(hb.cell (p:=⟨b,o+i*3+1,none⟩) h1).trans h3,(hb.cell (p:=⟨b,o+i*3+2,none⟩) h1).trans h4⟩
def OY:Option Int->Int->Bool
 | none,_=>false
 | some q,d=>decide (d<=q)
def WP (l:List UInt8):Bool:=decide (40<Ev l)
def UL:Option Int->List Pnt->Int
 | _,[]=>0
 | o,p::r=>if XV p.day=false then 13 else if ¬p.vl=canon (val p.vl) then 1 else if ¬p.fl=canon (val p.fl) then 1 else if WP p.vl=true then 4 else if WP p.fl=true then 4 else if OY o p.day=true then 8 else if val p.vl<0 then 2 else if r≠[]/\val p.vl+val p.fl<=0 then 2 else UL (some p.day) r
def XZ (ts:List Pnt):Int:=if ts.length=0 then 11 else if 400<ts.length then 4 else UL none ts
def XK (ts:List Pnt):Nat->Option Int
 | 0=>none
 | k+1=>(ts[k]?).map (·.day)
theorem GA {ts:List Pnt} {k n:Nat} {p:Pnt} (h:ts[k]?=some p) (hn:ts.length=n):UL (XK ts k) (ts.drop k)=if XV p.day=false then 13 else if ¬p.vl=canon (val p.vl) then 1 else if ¬p.fl=canon (val p.fl) then 1 else if WP p.vl=true then 4 else if WP p.fl=true then 4 else if OY (XK ts k) p.day=true then 8 else if val p.vl<0 then 2 else if k+1<n/\val p.vl+val p.fl<=0 then 2 else UL (XK ts (k+1)) (ts.drop (k+1)):=by
 obtain⟨hk,rfl⟩:=Lg.1 h;have e:XK ts (k+1)=some ts[k].day:=by show (ts[k]?).map (·.day)=_;rw[h];rfl
 have e2:(ts.drop (k+1)≠[]/\val ts[k].vl+val ts[k].fl<=0)=(k+1<n/\val ts[k].vl+val ts[k].fl<=0):=by
  have:(ts.drop (k+1)≠[])=(k+1<n):=by
   rw[ne_eq,List.drop_eq_nil_iff];apply propext;omega
  rw[this]
 rw[List.drop_eq_getElem_cons hk,e];show (if XV ts[k].day=false then (13:Int) else _)=_
 simp only[e2]
theorem Ex {ts:List Pnt} {k:Nat} (h:ts.length<=k):UL (XK ts k) (ts.drop k)=0:=by rw[List.drop_of_length_le h];cases XK ts k<;>rfl
theorem ZaW (d:Int):Ret 102 #[.int .i64 d] (.bool (XV d)):=fun w hG=>by
 by_cases h1 : -25567<=d
 ·have e1:decide (-25567<=d)=true:=Dt h1;have HV:Hid (XV d=decide (d<=84005)):=by show _=_;unfold XV;rw[e1];rfl
  go_enter func102,ntmps102;go_wp2;go_ret;exact⟨ZV HV.out.symm,Below.refl _ _⟩
 ·have e1:decide (-25567<=d)=false:=Df h1;have HV:Hid (XV d=false):=by show _=_;unfold XV;rw[e1];rfl
  go_enter func102,ntmps102;go_wp2;go_ret;exact⟨ZV HV.out.symm,Below.refl _ _⟩
theorem IK {l:List UInt8} (hl:l.length<=1000000):Ret 104 #[.string ⟨l.toArray⟩] (.bool (WP l)):=fun w hG=>by
 cases l with
 | nil=>
  have k1:decide (0<([]:List UInt8).length)=false:=rfl;go_enter func104,ntmps104;go_wp2;go_ret;exact⟨ZV (by decide),Below.refl _ _⟩
 | cons c t=>
  have htl:t.length<=999999:=by simp only[List.length_cons] at hl;omega
  have k1:decide (0<(c::t).length)=true:=Dt (by simp)
  have k3:0<(c::t).length:=by simp
  by_cases hc:c.toNat=45
  ·have k2:∀hp,((((⟨(c::t).toArray⟩:ByteArray)[0]'hp).toNat:Int)==45)=true:=fun hp=>by rw[beq_iff_eq];show ((c.toNat:Nat):Int)=45;omega
   have HV:Hid (WP (c::t)=decide (40<(t.length:Int))):=by show _=_;unfold WP;rw[show Ev (c::t)=t.length from if_pos hc]
   clear hc;go_enter func104,ntmps104;go_wp2;go_ret;exact⟨ZV (by rw[HV.out];first|done|rfl|(simp;done)|(apply decide_eq_decide.2;simp;done)|(apply decide_eq_decide.2;omega)|simp_all),Below.refl _ _⟩
  ·have k2:∀hp,((((⟨(c::t).toArray⟩:ByteArray)[0]'hp).toNat:Int)==45)=false:=fun hp=>by rw[Bn];show ¬((c.toNat:Nat):Int)=45;omega
   have HV:Hid (WP (c::t)=decide (40<(t.length:Int)+1)):=by show _=_;unfold WP;rw[show Ev (c::t)=t.length+1 from if_neg hc]
   clear hc;go_enter func104,ntmps104;go_wp2;go_ret;exact⟨ZV (by rw[HV.out];first|done|rfl|(simp;done)|(apply decide_eq_decide.2;simp;done)|(apply decide_eq_decide.2;omega)|simp_all),Below.refl _ _⟩
theorem Jv (t:Pnt) (h1:t.vl.length<=60) (h2:t.fl.length<=60):Ret 105 #[.agg #[.int .i64 t.day,.string ⟨t.vl.toArray⟩,.string ⟨t.fl.toArray⟩]] (.string ⟨(canon (val t.vl+val t.fl)).toArray⟩):=fun w hG=>by
 have hb:=Zb w (.cells #[.int .i64 t.day,.string ⟨t.vl.toArray⟩,.string ⟨t.fl.toArray⟩] 98);have x1:=Blk.new w #[.int .i64 t.day,.string ⟨t.vl.toArray⟩,.string ⟨t.fl.toArray⟩] 98;have C1:=Lh (VK (l:=t.vl) (l':=t.fl) (by omega) (by omega) rfl)
 have q0:=x1.c 0;have q1:=x1.c 1;have q2:=x1.c 2;generalize canon (val t.vl+val t.fl)=y at *;clear x1;go_enter func105,ntmps105;go_wp2_with fail
 refine (C1.out.of hG hb).mono ?_
 rintro e w2 ⟨rfl,hb2⟩;go_wp2;go_ret;exact⟨rfl,bto hb hb2⟩
theorem PC {v:Int}:(Zy v 0<0↔v<0)/\(Zy v 0<=0↔v<=0):=by
 rcases Ju v with h|h|h<;>rw[h.2]<;>constructor<;>omega
theorem Blk.ltB {w:World} {b:Nat} {cs:Array Value} (x:Blk w b cs):b<w.heap.size:=by obtain⟨t,h⟩:=x;exact (Ag.1 h).1
theorem Ey {w wr:World} {b:Nat} {cs:Array Value} (h:b<wr.heap.size) (x:Blk w wr.heap.size cs):b<w.heap.size:=Nat.lt_trans h x.ltB
theorem B4 (A:Option Addr) (ts:List Pnt) (n c:Nat) (w:World) (hG:Z5 w) (hn:ts.length=n) (hn67:n<=1000) (hs:∀t∈ts,t.vl.length<=60/\t.fl.length<=60) (h:Nm w A ts) :
  Calls prog 40 #[.slice A n c] w fun e w'=>e=.returned (.int .i64 (XZ ts))/\Below w.heap.size w w':=by
 by_cases h0:n=0
 ·subst h0;have HV:Hid (XZ ts=11):=by show _=_;unfold XZ;rw[if_pos hn]
  clear hn hs h;go_enter func40,ntmps40;go_wp2;go_ret;exact⟨ZU HV.out.symm,Below.refl _ _⟩
 have z1:((n:Int)==0)=false:=Qu (by omega)
 by_cases h4:400<n
 ·have HV:Hid (XZ ts=4):=by show _=_;unfold XZ;rw[if_neg (by omega),if_pos (by omega)]
  have e1:decide (400<n)=true:=Dt h4;clear hn hs h;go_enter func40,ntmps40;go_wp2;go_ret;exact⟨ZU HV.out.symm,Below.refl _ _⟩
 have e1:decide (400<n)=false:=Df h4;have HE:Hid (XZ ts=UL none ts):=by show _=_;unfold XZ;rw[if_neg (by omega),if_neg (by omega)]
 have HI:=Lh h;have HS:=Lh hs;have HNn:=Lh hn;clear h hn hs;go_enter func40,ntmps40;go_wp2_with fail;clear e1 z1
 go_loopw [15] (fun iv wr=>∃k:Nat,k<=n/\iv=.int .i64 (k:Int)/\Hid (UL none ts=UL (XK ts k) (ts.drop k))/\Below w.heap.size w wr) (fun iv _=>n-(intOf iv).toNat)
 case atStart=>exact⟨0,Nat.zero_le _,rfl,rfl,Below.refl _ _⟩
 case round=>
  obtain⟨k,hk,rfl,HK,hb⟩:=hrel;have hnl:=HNn.out
  by_cases hlk:k<n
  rotate_left
  ·have HV:Hid (XZ ts=0):=by show _=_;rw[HE.out,HK.out,Ex (by omega)]
   clear HK HE HI HS;go_wp2;go_ret;exact⟨ZU HV.out.symm,hb⟩
  obtain⟨t,ht⟩:∃t,ts[k]?=some t:=⟨_,List.getElem?_eq_getElem (by omega)⟩
  obtain⟨b,o,hA,hbs,p0,p1,p2⟩:=(HI.out.below hb) k t ht;subst hA;obtain⟨hv40,hf40⟩:=HS.out t (Lm ht);have HN:=Lh (GA ht hnl);have hbA:=Zb wr (.cells #[.int .i64 t.day,.string ⟨t.vl.toArray⟩,.string ⟨t.fl.toArray⟩] 98);have x4:=Blk.new wr #[.int .i64 t.day,.string ⟨t.vl.toArray⟩,.string ⟨t.fl.toArray⟩] 98;replace hb:=bto hb hbA;clear hbA ht;have CD:=Lh (ZaW t.day);cases gd:XV t.day
  ·have HG:=Lh gd;rw[gd] at CD;clear gd;have q0:=x4.c 0;have q1:=x4.c 1;have q2:=x4.c 2;go_wp2_with fail
   refine (CD.out.of hG hb).mono ?_
   rintro e w10 ⟨rfl,hb10⟩;clear q0 q1 q2;replace x4:=x4.below hb10;replace hb:=bto hb hb10;clear hb10;clear p0 p1 p2;have HV:Hid (XZ ts=13):=by show _=_;rw[HE.out,HK.out,HN.out,if_pos HG.out]
   clear HK HN HE HI HS;have q0:=x4.c 0;have q1:=x4.c 1;have q2:=x4.c 2;go_wp2;go_ret;exact⟨ZU HV.out.symm,hb⟩
  have HGd:Hid (¬XV t.day=false):=by show ¬_;rw[gd];decide
  rw[gd] at CD;clear gd;have q0:=x4.c 0;have q1:=x4.c 1;have q2:=x4.c 2;go_wp2_with fail
  refine (CD.out.of hG hb).mono ?_
  rintro e w11 ⟨rfl,hb11⟩;clear q0 q1 q2;replace x4:=x4.below hb11;replace hb:=bto hb hb11;clear hb11;clear p0 p1 p2 CD
  by_cases gv:t.vl=canon (val t.vl)
  rotate_left
  ·have CC:=Lh (Yz (l:=t.vl) (c:=1) (by omega) (if_neg gv))
   have HB:=Lh gv;clear gv;have q0:=x4.c 0;have q1:=x4.c 1;have q2:=x4.c 2;go_wp2_with fail
   refine (CC.out.of hG hb).mono ?_
   rintro e w12 ⟨rfl,hb12⟩;clear q0 q1 q2;replace x4:=x4.below hb12;replace hb:=bto hb hb12;clear hb12;have HV:Hid (XZ ts=1):=by show _=_;rw[HE.out,HK.out,HN.out,if_neg HGd.out,if_pos HB.out]
   clear HK HN HE HI HS;have q0:=x4.c 0;have q1:=x4.c 1;have q2:=x4.c 2;go_wp2;go_ret;exact⟨ZU HV.out.symm,hb⟩
  have CC:=Lh (Yz (l:=t.vl) (c:=0) (by omega) (if_pos gv))
  have Hgv:Hid (¬ ¬t.vl=canon (val t.vl)):=fun h=>h gv
  clear gv;have q0:=x4.c 0;have q1:=x4.c 1;have q2:=x4.c 2;go_wp2_with fail
  refine (CC.out.of hG hb).mono ?_
  rintro e w13 ⟨rfl,hb13⟩;clear q0 q1 q2;replace x4:=x4.below hb13;replace hb:=bto hb hb13;clear hb13;clear CC
  by_cases gf:t.fl=canon (val t.fl)
  rotate_left
  ·have CC:=Lh (Yz (l:=t.fl) (c:=1) (by omega) (if_neg gf))
   have HB:=Lh gf;clear gf;have q0:=x4.c 0;have q1:=x4.c 1;have q2:=x4.c 2;go_wp2_with fail
   refine (CC.out.of hG hb).mono ?_
   rintro e w14 ⟨rfl,hb14⟩;clear q0 q1 q2;replace x4:=x4.below hb14;replace hb:=bto hb hb14;clear hb14;have HV:Hid (XZ ts=1):=by show _=_;rw[HE.out,HK.out,HN.out,if_neg HGd.out,if_neg Hgv.out,if_pos HB.out]
   clear HK HN HE HI HS;have q0:=x4.c 0;have q1:=x4.c 1;have q2:=x4.c 2;go_wp2;go_ret;exact⟨ZU HV.out.symm,hb⟩
  have CC:=Lh (Yz (l:=t.fl) (c:=0) (by omega) (if_pos gf))
  have Hgf:Hid (¬ ¬t.fl=canon (val t.fl)):=fun h=>h gf
  clear gf;have q0:=x4.c 0;have q1:=x4.c 1;have q2:=x4.c 2;go_wp2_with fail
  refine (CC.out.of hG hb).mono ?_
  rintro e w15 ⟨rfl,hb15⟩;clear q0 q1 q2;replace x4:=x4.below hb15;replace hb:=bto hb hb15;clear hb15;clear CC;cases gg:WP t.vl;rotate_left
  ·have CV:=Lh (IK (l:=t.vl) (by omega))
   have HC:=Lh gg;rw[gg] at CV;clear gg;have q0:=x4.c 0;have q1:=x4.c 1;have q2:=x4.c 2;go_wp2_with fail
   refine (CV.out.of hG hb).mono ?_
   rintro e w16 ⟨rfl,hb16⟩;clear q0 q1 q2;replace x4:=x4.below hb16;replace hb:=bto hb hb16;clear hb16;have HV:Hid (XZ ts=4):=by show _=_;rw[HE.out,HK.out,HN.out,if_neg HGd.out,if_neg Hgv.out,if_neg Hgf.out,if_pos HC.out]
   clear HK HN HE HI HS;have q0:=x4.c 0;have q1:=x4.c 1;have q2:=x4.c 2;go_wp2;go_ret;exact⟨ZU HV.out.symm,hb⟩
  have CV:=Lh (IK (l:=t.vl) (by omega))
  have HLv:Hid (¬WP t.vl=true):=by show ¬_;rw[gg];decide
  rw[gg] at CV;clear gg;have q0:=x4.c 0;have q1:=x4.c 1;have q2:=x4.c 2;go_wp2_with fail
  refine (CV.out.of hG hb).mono ?_
  rintro e w17 ⟨rfl,hb17⟩;clear q0 q1 q2;replace x4:=x4.below hb17;replace hb:=bto hb hb17;clear hb17;clear CV;cases gg:WP t.fl;rotate_left
  ·have CV:=Lh (IK (l:=t.fl) (by omega))
   have HC:=Lh gg;rw[gg] at CV;clear gg;have q0:=x4.c 0;have q1:=x4.c 1;have q2:=x4.c 2;go_wp2_with fail
   refine (CV.out.of hG hb).mono ?_
   rintro e w18 ⟨rfl,hb18⟩;clear q0 q1 q2;replace x4:=x4.below hb18;replace hb:=bto hb hb18;clear hb18;have HV:Hid (XZ ts=4):=by show _=_;rw[HE.out,HK.out,HN.out,if_neg HGd.out,if_neg Hgv.out,if_neg Hgf.out,if_neg HLv.out,if_pos HC.out]
   clear HK HN HE HI HS;have q0:=x4.c 0;have q1:=x4.c 1;have q2:=x4.c 2;go_wp2;go_ret;exact⟨ZU HV.out.symm,hb⟩
  have CV:=Lh (IK (l:=t.fl) (by omega))
  have HLf:Hid (¬WP t.fl=true):=by show ¬_;rw[gg];decide
  rw[gg] at CV;clear gg;have q0:=x4.c 0;have q1:=x4.c 1;have q2:=x4.c 2;go_wp2_with fail
  refine (CV.out.of hG hb).mono ?_
  rintro e w19 ⟨rfl,hb19⟩;clear q0 q1 q2;replace x4:=x4.below hb19;replace hb:=bto hb hb19;clear hb19;clear CV;cases k with
  | zero=>
   go_wp2_with fail;refine Zm (by kernel_rfl) (by kernel_rfl) ?_
   iterate 3
    refine KeV ?_;simp only[Act.put,StT,StZ,StS,Nat.reduceAdd]
   iterate 9
    refine Yn (fun _=>rfl) ?_
    simp only[Act.put,StT,StZ,StS,Nat.reduceAdd]
   iterate 2
    refine KeV ?_;simp only[Act.put,StT,StZ,StS,Nat.reduceAdd]
   refine ZC (fun ρ w20 hF=>?_)
   have hbF:=hF.below;clear hF;replace x4:=x4.below hbF;replace hb:=bto hb hbF;clear hbF;have hcn:=PC (v:=val t.vl);obtain⟨c1,hc1⟩:∃c1,Zy (val t.vl) 0=c1:=⟨_,rfl⟩
   rw[hc1] at hcn;have CA:=Lh (ZA (l:=t.vl) (l':=[]) (by omega) (by decide) hc1)
   clear hc1
   by_cases gn:val t.vl<0
   ·have f3:decide (c1<0)=true:=Dt (hcn.1.2 gn);have HC:=Lh gn;clear gn hcn;have q0:=x4.c 0;have q1:=x4.c 1;have q2:=x4.c 2;go_wp2_with fail
    refine (CA.out.of hG hb).mono ?_
    rintro e w20 ⟨rfl,hb20⟩;clear q0 q1 q2;replace x4:=x4.below hb20;replace hb:=bto hb hb20;clear hb20;have HV:Hid (XZ ts=2):=by show _=_;rw[HE.out,HK.out,HN.out,if_neg HGd.out,if_neg Hgv.out,if_neg Hgf.out,if_neg HLv.out,if_neg HLf.out,if_neg (show ¬OY (XK ts 0) t.day=true from fun h=>by cases h),if_pos HC.out]
    clear HK HN HE HI HS;have q0:=x4.c 0;have q1:=x4.c 1;have q2:=x4.c 2;go_wp2;go_ret;exact⟨ZU HV.out.symm,hb⟩
   have f3:decide (c1<0)=false:=Df (fun h=>gn (hcn.1.1 h))
   have HGn:=Lh gn;clear gn hcn
   by_cases gl:0+1<n
   rotate_left
   ·have HV:Hid (UL none ts=UL (XK ts (0+1)) (ts.drop (0+1))):=by show _=_;rw[HK.out,HN.out,if_neg HGd.out,if_neg Hgv.out,if_neg Hgf.out,if_neg HLv.out,if_neg HLf.out,if_neg (show ¬OY (XK ts 0) t.day=true from fun h=>by cases h),if_neg (show ¬val t.vl<0 from by have:=HGn.out;omega),if_neg (fun h=>gl h.1)]
    have f4:decide (((0:Nat):Int)+1<(n:Int))=false:=Df (by omega)
    clear HK HN;have q0:=x4.c 0;have q1:=x4.c 1;have q2:=x4.c 2;go_wp2_with fail
    refine (CA.out.of hG hb).mono ?_
    rintro e w21 ⟨rfl,hb21⟩;clear q0 q1 q2;replace x4:=x4.below hb21;replace hb:=bto hb hb21;clear hb21;have q0:=x4.c 0;have q1:=x4.c 1;have q2:=x4.c 2;go_wp2;go_roundw
    case rel=>exact⟨0+1,by omega,by go_num,HV.out,hb⟩
    case measure=>simp[intOf];omega
   have CB:=Lh (Jv t hv40 hf40);have hyl:(canon (val t.vl+val t.fl)).length<=100:=Nt (Zl _ 62 (by have h1:=Zo hv40;have h2:=Zo hf40;have h3:=Int.natAbs_add_le (val t.vl) (val t.fl);have h4:(10:Nat) ^ 60+10 ^ 60<=10 ^ 62:=(by decide);omega)) (by decide)
   have hcm:=PC (v:=val t.vl+val t.fl);obtain⟨c2,hc2⟩:∃c2,Zy (val t.vl+val t.fl) 0=c2:=⟨_,rfl⟩
   rw[hc2] at hcm;have CE:=Lh (ZA (l:=canon (val t.vl+val t.fl)) (l':=[]) (by omega) (by decide) (c:=c2) (by rw[Zh];exact hc2))
   clear hc2
   by_cases gs:val t.vl+val t.fl<=0
   ·have f5:decide (c2<=0)=true:=Dt (hcm.2.2 gs);have HC:=Lh (And.intro gl gs);generalize canon (val t.vl+val t.fl)=yy at *;clear gs hcm;have q0:=x4.c 0;have q1:=x4.c 1;have q2:=x4.c 2;go_wp2_with fail
    refine (CA.out.of hG hb).mono ?_
    rintro e w22 ⟨rfl,hb22⟩;clear q0 q1 q2;replace x4:=x4.below hb22;replace hb:=bto hb hb22;clear hb22;have q0:=x4.c 0;have q1:=x4.c 1;have q2:=x4.c 2;go_wp2_with fail
    refine (CB.out.of hG hb).mono ?_
    rintro e w23 ⟨rfl,hb23⟩;clear q0 q1 q2;replace x4:=x4.below hb23;replace hb:=bto hb hb23;clear hb23;have q0:=x4.c 0;have q1:=x4.c 1;have q2:=x4.c 2;go_wp2_with fail
    refine (CE.out.of hG hb).mono ?_
    rintro e w24 ⟨rfl,hb24⟩;clear q0 q1 q2;replace x4:=x4.below hb24;replace hb:=bto hb hb24;clear hb24;have HV:Hid (XZ ts=2):=by show _=_;rw[HE.out,HK.out,HN.out,if_neg HGd.out,if_neg Hgv.out,if_neg Hgf.out,if_neg HLv.out,if_neg HLf.out,if_neg (show ¬OY (XK ts 0) t.day=true from fun h=>by cases h),if_neg (show ¬val t.vl<0 from by have:=HGn.out;omega),if_pos HC.out]
    clear HK HN HE HI HS;have q0:=x4.c 0;have q1:=x4.c 1;have q2:=x4.c 2;go_wp2;go_ret;exact⟨ZU HV.out.symm,hb⟩
   have HV:Hid (UL none ts=UL (XK ts (0+1)) (ts.drop (0+1))):=by show _=_;rw[HK.out,HN.out,if_neg HGd.out,if_neg Hgv.out,if_neg Hgf.out,if_neg HLv.out,if_neg HLf.out,if_neg (show ¬OY (XK ts 0) t.day=true from fun h=>by cases h),if_neg (show ¬val t.vl<0 from by have:=HGn.out;omega),if_neg (fun h=>gs h.2)]
   have f5:decide (c2<=0)=false:=Df (fun h=>gs (hcm.2.1 h))
   generalize canon (val t.vl+val t.fl)=yy at *;clear gs hcm HK HN;have q0:=x4.c 0;have q1:=x4.c 1;have q2:=x4.c 2;go_wp2_with fail
   refine (CA.out.of hG hb).mono ?_
   rintro e w25 ⟨rfl,hb25⟩;clear q0 q1 q2;replace x4:=x4.below hb25;replace hb:=bto hb hb25;clear hb25;have q0:=x4.c 0;have q1:=x4.c 1;have q2:=x4.c 2;go_wp2_with fail
   refine (CB.out.of hG hb).mono ?_
   rintro e w26 ⟨rfl,hb26⟩;clear q0 q1 q2;replace x4:=x4.below hb26;replace hb:=bto hb hb26;clear hb26;have q0:=x4.c 0;have q1:=x4.c 1;have q2:=x4.c 2;go_wp2_with fail
   refine (CE.out.of hG hb).mono ?_
   rintro e w27 ⟨rfl,hb27⟩;clear q0 q1 q2;replace x4:=x4.below hb27;replace hb:=bto hb hb27;clear hb27;have q0:=x4.c 0;have q1:=x4.c 1;have q2:=x4.c 2;go_wp2;go_roundw
   case rel=>exact⟨0+1,by omega,by go_num,HV.out,hb⟩
   case measure=>simp[intOf];omega
  | succ k'=>
   obtain⟨u,hu⟩:∃u,ts[k']?=some u:=⟨_,List.getElem?_eq_getElem (by omega)⟩
   obtain⟨b',o',hA',hbs',r0,-,-⟩:=(HI.out.below hb) k' u hu;obtain⟨rfl,rfl⟩:b=b'/\o=o':=by injection hA' with hA';injection hA' with h1 h2;exact⟨h1,h2⟩
   have hpd:XK ts (k'+1)=some u.day:=by show (ts[k']?).map (·.day)=_;rw[hu];rfl
   have HPd:=Lh hpd;have hwr:IntKind.i64.wrap (k':Int)=(k':Int):=Go.IntWalk.i64_in _ (by omega)
   have hkn:k'<n:=by omega
   clear hu hA' hpd hbs'
   by_cases go:t.day<=u.day
   ·have f6:decide (t.day<=u.day)=true:=Dt go;have HB:Hid (OY (XK ts (k'+1)) t.day=true):=by show _=_;rw[HPd.out];exact f6
    have hbs2:=Ey hbs x4;go_wp2_with fail;refine Zm (by kernel_rfl) (by kernel_rfl) ?_
    refine KeV ?_;simp only[Act.put,StT,StZ,StS,Nat.reduceAdd];refine Zw (.bool true) (fun _=>rfl) (fun ρ w hw=>by go_simp;first|done|omega|(simp;omega)) ?_
    iterate 2
     simp only[Act.put,StT,StZ,StS,Nat.reduceAdd];refine KeV ?_
    simp only[Act.put,StT,StZ,StS,Nat.reduceAdd];refine KeW (fun ρ w hw=>by have q0:=(x4.below hw).c 0;go_simp;try rfl) ?_
    iterate 5
     simp only[Act.put,StT,StZ,StS,Nat.reduceAdd];refine KeV ?_
    simp only[Act.put,StT,StZ,StS,Nat.reduceAdd];refine KeW (fun ρ w hw=>by have q0:=(hw.cell (p:=⟨b,o+k'*3,none⟩) hbs2).trans r0;go_simp;try rfl) ?_
    iterate 3
     simp only[Act.put,StT,StZ,StS,Nat.reduceAdd];refine KeV ?_
    simp only[Act.put,StT,StZ,StS,Nat.reduceAdd];refine ZC (fun ρ w20 hF=>?_)
    have hbF:=hF.below;clear hF;replace x4:=x4.below hbF;replace hb:=bto hb hbF;clear hbF;clear r0 hbs2;have HV:Hid (XZ ts=8):=by show _=_;rw[HE.out,HK.out,HN.out,if_neg HGd.out,if_neg Hgv.out,if_neg Hgf.out,if_neg HLv.out,if_neg HLf.out,if_pos HB.out]
    clear HK HN HE HI HS;have q0:=x4.c 0;have q1:=x4.c 1;have q2:=x4.c 2;go_wp2;go_ret;exact⟨ZU HV.out.symm,hb⟩
   have f6:decide (t.day<=u.day)=false:=Df go;have HB:Hid (¬OY (XK ts (k'+1)) t.day=true):=by show ¬_;rw[HPd.out];exact fun h=>go (of_decide_eq_true h)
   have hbs2:=Ey hbs x4;go_wp2_with fail;refine Zm (by kernel_rfl) (by kernel_rfl) ?_
   refine KeV ?_;simp only[Act.put,StT,StZ,StS,Nat.reduceAdd];refine Zw (.bool true) (fun _=>rfl) (fun ρ w hw=>by go_simp;first|done|omega|(simp;omega)) ?_
   iterate 2
    simp only[Act.put,StT,StZ,StS,Nat.reduceAdd];refine KeV ?_
   simp only[Act.put,StT,StZ,StS,Nat.reduceAdd];refine KeW (fun ρ w hw=>by have q0:=(x4.below hw).c 0;go_simp;try rfl) ?_
   iterate 5
    simp only[Act.put,StT,StZ,StS,Nat.reduceAdd];refine KeV ?_
   simp only[Act.put,StT,StZ,StS,Nat.reduceAdd];refine KeW (fun ρ w hw=>by have q0:=(hw.cell (p:=⟨b,o+k'*3,none⟩) hbs2).trans r0;go_simp;try rfl) ?_
   iterate 3
    simp only[Act.put,StT,StZ,StS,Nat.reduceAdd];refine KeV ?_
   simp only[Act.put,StT,StZ,StS,Nat.reduceAdd];refine ZC (fun ρ w20 hF=>?_)
   have hbF:=hF.below;clear hF;replace x4:=x4.below hbF;replace hb:=bto hb hbF;clear hbF;clear r0 hbs2;have hcn:=PC (v:=val t.vl);obtain⟨c1,hc1⟩:∃c1,Zy (val t.vl) 0=c1:=⟨_,rfl⟩
   rw[hc1] at hcn;have CA:=Lh (ZA (l:=t.vl) (l':=[]) (by omega) (by decide) hc1)
   clear hc1
   by_cases gn:val t.vl<0
   ·have f3:decide (c1<0)=true:=Dt (hcn.1.2 gn);have HC:=Lh gn;clear gn hcn;have q0:=x4.c 0;have q1:=x4.c 1;have q2:=x4.c 2;go_wp2_with fail
    refine (CA.out.of hG hb).mono ?_
    rintro e w28 ⟨rfl,hb28⟩;clear q0 q1 q2;replace x4:=x4.below hb28;replace hb:=bto hb hb28;clear hb28;have HV:Hid (XZ ts=2):=by show _=_;rw[HE.out,HK.out,HN.out,if_neg HGd.out,if_neg Hgv.out,if_neg Hgf.out,if_neg HLv.out,if_neg HLf.out,if_neg HB.out,if_pos HC.out]
    clear HK HN HE HI HS;have q0:=x4.c 0;have q1:=x4.c 1;have q2:=x4.c 2;go_wp2;go_ret;exact⟨ZU HV.out.symm,hb⟩
   have f3:decide (c1<0)=false:=Df (fun h=>gn (hcn.1.1 h))
   have HGn:=Lh gn;clear gn hcn
   by_cases gl:(k'+1)+1<n
   rotate_left
   ·have HV:Hid (UL none ts=UL (XK ts ((k'+1)+1)) (ts.drop ((k'+1)+1))):=by show _=_;rw[HK.out,HN.out,if_neg HGd.out,if_neg Hgv.out,if_neg Hgf.out,if_neg HLv.out,if_neg HLf.out,if_neg HB.out,if_neg (show ¬val t.vl<0 from by have:=HGn.out;omega),if_neg (fun h=>gl h.1)]
    have f4:decide ((((k'+1):Nat):Int)+1<(n:Int))=false:=Df (by omega)
    clear HK HN;have q0:=x4.c 0;have q1:=x4.c 1;have q2:=x4.c 2;go_wp2_with fail
    refine (CA.out.of hG hb).mono ?_
    rintro e w29 ⟨rfl,hb29⟩;clear q0 q1 q2;replace x4:=x4.below hb29;replace hb:=bto hb hb29;clear hb29;have q0:=x4.c 0;have q1:=x4.c 1;have q2:=x4.c 2;go_wp2;go_roundw
    case rel=>exact⟨(k'+1)+1,by omega,by go_num,HV.out,hb⟩
    case measure=>simp[intOf];omega
   have CB:=Lh (Jv t hv40 hf40);have hyl:(canon (val t.vl+val t.fl)).length<=100:=Nt (Zl _ 62 (by have h1:=Zo hv40;have h2:=Zo hf40;have h3:=Int.natAbs_add_le (val t.vl) (val t.fl);have h4:(10:Nat) ^ 60+10 ^ 60<=10 ^ 62:=(by decide);omega)) (by decide)
   have hcm:=PC (v:=val t.vl+val t.fl);obtain⟨c2,hc2⟩:∃c2,Zy (val t.vl+val t.fl) 0=c2:=⟨_,rfl⟩
   rw[hc2] at hcm;have CE:=Lh (ZA (l:=canon (val t.vl+val t.fl)) (l':=[]) (by omega) (by decide) (c:=c2) (by rw[Zh];exact hc2))
   clear hc2
   by_cases gs:val t.vl+val t.fl<=0
   ·have f5:decide (c2<=0)=true:=Dt (hcm.2.2 gs);have HC:=Lh (And.intro gl gs);generalize canon (val t.vl+val t.fl)=yy at *;clear gs hcm;have q0:=x4.c 0;have q1:=x4.c 1;have q2:=x4.c 2;go_wp2_with fail
    refine (CA.out.of hG hb).mono ?_
    rintro e w30 ⟨rfl,hb30⟩;clear q0 q1 q2;replace x4:=x4.below hb30;replace hb:=bto hb hb30;clear hb30;have q0:=x4.c 0;have q1:=x4.c 1;have q2:=x4.c 2;go_wp2_with fail
    refine (CB.out.of hG hb).mono ?_
    rintro e w31 ⟨rfl,hb31⟩;clear q0 q1 q2;replace x4:=x4.below hb31;replace hb:=bto hb hb31;clear hb31;have q0:=x4.c 0;have q1:=x4.c 1;have q2:=x4.c 2;go_wp2_with fail
    refine (CE.out.of hG hb).mono ?_
    rintro e w32 ⟨rfl,hb32⟩;clear q0 q1 q2;replace x4:=x4.below hb32;replace hb:=bto hb hb32;clear hb32;have HV:Hid (XZ ts=2):=by show _=_;rw[HE.out,HK.out,HN.out,if_neg HGd.out,if_neg Hgv.out,if_neg Hgf.out,if_neg HLv.out,if_neg HLf.out,if_neg HB.out,if_neg (show ¬val t.vl<0 from by have:=HGn.out;omega),if_pos HC.out]
    clear HK HN HE HI HS;have q0:=x4.c 0;have q1:=x4.c 1;have q2:=x4.c 2;go_wp2;go_ret;exact⟨ZU HV.out.symm,hb⟩
   have HV:Hid (UL none ts=UL (XK ts ((k'+1)+1)) (ts.drop ((k'+1)+1))):=by show _=_;rw[HK.out,HN.out,if_neg HGd.out,if_neg Hgv.out,if_neg Hgf.out,if_neg HLv.out,if_neg HLf.out,if_neg HB.out,if_neg (show ¬val t.vl<0 from by have:=HGn.out;omega),if_neg (fun h=>gs h.2)]
   have f5:decide (c2<=0)=false:=Df (fun h=>gs (hcm.2.1 h))
   generalize canon (val t.vl+val t.fl)=yy at *;clear gs hcm HK HN;have q0:=x4.c 0;have q1:=x4.c 1;have q2:=x4.c 2;go_wp2_with fail
   refine (CA.out.of hG hb).mono ?_
   rintro e w33 ⟨rfl,hb33⟩;clear q0 q1 q2;replace x4:=x4.below hb33;replace hb:=bto hb hb33;clear hb33;have q0:=x4.c 0;have q1:=x4.c 1;have q2:=x4.c 2;go_wp2_with fail
   refine (CB.out.of hG hb).mono ?_
   rintro e w34 ⟨rfl,hb34⟩;clear q0 q1 q2;replace x4:=x4.below hb34;replace hb:=bto hb hb34;clear hb34;have q0:=x4.c 0;have q1:=x4.c 1;have q2:=x4.c 2;go_wp2_with fail
   refine (CE.out.of hG hb).mono ?_
   rintro e w35 ⟨rfl,hb35⟩;clear q0 q1 q2;replace x4:=x4.below hb35;replace hb:=bto hb hb35;clear hb35;have q0:=x4.c 0;have q1:=x4.c 1;have q2:=x4.c 2;go_wp2;go_roundw
   case rel=>exact⟨(k'+1)+1,by omega,by go_num,HV.out,hb⟩
   case measure=>simp[intOf];omega
abbrev PT:=Int×Int×Int
def Wd:List PT->List Rat
 | p::q::r=>Rat.divInt q.2.1 (p.2.1+p.2.2)::Wd (q::r)
 | _=>[]
def Yw:Rat->List Rat->Rat
 | x,[]=>x
 | x,f::r=>Yw (x*f) r
def Ln:List PT->Prop
 | p::q::r=>0<p.2.1+p.2.2/\Ln (q::r)
 | _=>True
theorem Nn:∀(l m:List Rat) (x:Rat),Yw x (l++m)=Yw (Yw x l) m
 | [],_,_=>rfl
 | f::r,m,x=>Nn r m (x*f)
def ptZ (t:Pnt):PT:=(t.day,val t.vl,val t.fl)
def pts (ts:List Pnt):List PT:=ts.map ptZ
theorem Mo (ts:List Pnt):(pts ts).length=ts.length:=List.length_map _
def UpD:Option Int->List Pnt->Prop
 | _,[]=>True
 | o,p::r=>OY o p.day=false/\UpD (some p.day) r
structure QW (t:Pnt):Prop where
 day : -25567<=t.day/\t.day<=84005
 cv:t.vl=canon (val t.vl)
 cf:t.fl=canon (val t.fl)
 lv:t.vl.length<=41
 lf:t.fl.length<=41
 nn:0<=val t.vl
theorem Lo {l:List UInt8} (h:¬WP l=true):l.length<=41:=by
 have h2:¬40<Ev l:=fun h3=>h (Dt h3)
 cases l with
 | nil=>exact Nat.zero_le _
 | cons c t=>
  rw[List.length_cons];have e:Ev (c::t)=if c.toNat=45 then (t.length:Int) else t.length+1:=rfl
  rw[e] at h2
  split at h2<;>omega
theorem IL:∀(ts:List Pnt) (o:Option Int),UL o ts=0->Ln (pts ts)/\UpD o ts/\∀t∈ts,QW t
 | [],_,_=>⟨trivial,trivial,fun _ h=>by cases h⟩
 | p::r,o,h=>by
  unfold UL at h
  by_cases g1:XV p.day=false
  ·rw[if_pos g1] at h;cases h
  rw[if_neg g1] at h
  by_cases g2:p.vl=canon (val p.vl)
  rotate_left
  ·rw[if_pos g2] at h;cases h
  rw[if_neg (fun h=>h g2)] at h
  by_cases g3:p.fl=canon (val p.fl)
  rotate_left
  ·rw[if_pos g3] at h;cases h
  rw[if_neg (fun h=>h g3)] at h
  by_cases g7:WP p.vl=true
  ·rw[if_pos g7] at h;cases h
  rw[if_neg g7] at h
  by_cases g8:WP p.fl=true
  ·rw[if_pos g8] at h;cases h
  rw[if_neg g8] at h
  by_cases g4:OY o p.day=true
  ·rw[if_pos g4] at h;cases h
  rw[if_neg g4] at h
  by_cases g5:val p.vl<0
  ·rw[if_pos g5] at h;cases h
  rw[if_neg g5] at h
  by_cases g6:r≠[]/\val p.vl+val p.fl<=0
  ·rw[if_pos g6] at h;cases h
  rw[if_neg g6] at h;obtain⟨i1,i2,i3⟩:=IL r (some p.day) h;refine⟨?_,⟨by simpa using g4,i2⟩,fun t ht=>?_⟩
  ·cases r with
   | nil=>exact trivial
   | cons q s=>
    refine⟨?_,i1⟩;show 0<val p.vl+val p.fl
    have:¬val p.vl+val p.fl<=0:=fun h=>g6 ⟨by simp,h⟩
    omega
  ·rcases List.mem_cons.1 ht with rfl|ht
   ·refine⟨?_,g2,g3,Lo g7,Lo g8,by omega⟩
    unfold XV at g1;simp only[Bool.and_eq_false_iff,decide_eq_false_iff_not,not_or,Decidable.not_not] at g1;exact g1
   ·exact i3 t ht
theorem B5 {ts:List Pnt} (h:XZ ts=0):1<=ts.length/\ts.length<=400/\Ln (pts ts)/\UpD none ts/\∀t∈ts,QW t:=by
 unfold XZ at h
 by_cases h0:ts.length=0
 ·rw[if_pos h0] at h;cases h
 rw[if_neg h0] at h
 by_cases h1:400<ts.length
 ·rw[if_pos h1] at h;cases h
 rw[if_neg h1] at h;exact⟨by omega,by omega,IL ts none h⟩
theorem Ez (p q:PT) (r:List PT):Wd (p::q::r)=Rat.divInt q.2.1 (p.2.1+p.2.2)::Wd (q::r):=rfl
theorem SQ:∀l:List PT,(Wd l).length=l.length-1
 | []=>rfl
 | [_]=>rfl
 | p::q::r=>by
  rw[Ez,List.length_cons,SQ (q::r)];simp
theorem GB {ts:List Pnt} {k:Nat} {p q:Pnt} (hp:ts[k]?=some p) (hq:ts[k+1]?=some q):Wd (pts (ts.drop k))=Rat.divInt (val q.vl) (val p.vl+val p.fl)::Wd (pts (ts.drop (k+1))):=by
 obtain⟨h1,rfl⟩:=Lg.1 hp;obtain⟨h2,rfl⟩:=Lg.1 hq;rw[List.drop_eq_getElem_cons h1,List.drop_eq_getElem_cons h2];rfl
theorem EA {ts:List Pnt} {k:Nat} (h:ts.length<=k+1):Wd (pts (ts.drop k))=[]:=by
 have h1:(ts.drop k).length<=1:=by rw[List.length_drop];omega
 match hd:ts.drop k,h1 with
 | [],_=>rfl
 | [_],_=>rfl
 | _::_::_,h=>simp at h
theorem IM:∀{ts:List Pnt} {k:Nat} {p q:Pnt},Ln (pts ts)->ts[k]?=some p->ts[k+1]?=some q->0<val p.vl+val p.fl
 | [],k,p,q,_,h,_=>by simp at h
 | [a],k,p,q,_,_,h=>by simp at h
 | a::b::r,0,p,q,h,hp,_=>by
  have:a=p:=by simpa using hp
  subst this;exact h.1
 | a::b::r,k+1,p,q,h,hp,hq=>IM (ts:=b::r) (k:=k) h.2 (by simpa using hp) (by simpa using hq)
theorem EB {p q:Pnt} (h:0<val p.vl+val p.fl) (hp:QW p) (hq:QW q):Bd 42 (Rat.divInt (val q.vl) (val p.vl+val p.fl)):=by
 have a1:=Zo hq.lv;have a2:=Zo hp.lv;have a3:=Zo hp.lf;have a4:(10:Nat) ^ 41+10 ^ 41<=10 ^ 42:=by decide
 have a5:=Int.natAbs_add_le (val p.vl) (val p.fl);exact V1 (by omega) (by omega) (by omega)
theorem IN:∀{ts:List Pnt},Ln (pts ts)->(∀t∈ts,QW t)->∀q∈Wd (pts ts),Bd 42 q
 | [],_,_,q,h=>by cases h
 | [_],_,_,q,h=>by cases h
 | a::b::r,hp,hs,q,h=>by
  have h1:Wd (pts (a::b::r))=Rat.divInt (val b.vl) (val a.vl+val a.fl)::Wd (pts (b::r)):=rfl;rw[h1] at h;rcases List.mem_cons.1 h with rfl|h
  ·exact EB hp.1 (hs a (by simp)) (hs b (by simp))
  ·exact IN (ts:=b::r) hp.2 (fun t ht=>hs t (List.mem_cons_of_mem _ ht)) q h
theorem Oq {M:Nat}:∀(l:List Rat) {x:Rat} {K:Nat},Bd K x->(∀q∈l,Bd M q)->Bd (K+M*l.length) (Yw x l)
 | [],x,K,h,_=>by rw[List.length_nil,Nat.mul_zero];exact h
 | f::r,x,K,h,hl=>by
  have:=Oq (M:=M) r (x:=x*f) (K:=K+M) (Je h (hl f (List.mem_cons_self ..))) (fun q hq=>hl q (List.mem_cons_of_mem _ hq))
  rw[List.length_cons,Nat.mul_succ,show K+(M*r.length+M)=K+M+M*r.length by omega]
  exact this
theorem Jw (l:List Rat) (x y:Rat):Yw x (l++[y])=Yw x l*y:=Nn l [y] x
theorem Jx:Bd 1 (1:Rat):=⟨by decide,by decide⟩
theorem No {α:Type} {T:List α} {k:Nat} {y:α} (h:T[k]?=some y):T.take (k+1)=T.take k++[y]:=by
 obtain⟨hk,rfl⟩:=Lg.1 h;exact (List.take_append_getElem hk).symm
open Go.Shelf
attribute [local go_sem] Oper.semAt_some
section
variable {w:World} {b c l i:Nat} {v u x y:Value} {cs:Array Value} {ob:Obj}
theorem Blk.setAt (h:Blk w b cs) (i:Nat) (u:Value):Blk (w.setCell ⟨b,i,none⟩ u) b (cs.setIfInBounds i u):=by
 obtain⟨t,h⟩:=h;refine⟨t,?_⟩;obtain⟨hlt,hk⟩:=Ag.1 h;show (w.heap.modify b _)[b]?=_;rw[Array.getElem?_eq_getElem (by rw[Array.size_modify];exact hlt),Array.getElem_modify_self,hk]
 simp
theorem Blk.set2 (h:Blk w b #[u,v]) (x y:Value):Blk ((w.setCell ⟨b,0,none⟩ x).setCell ⟨b,1,none⟩ y) b #[x,y]:=(h.setAt 0 x).setAt 1 y
theorem Blk.setO (h:Blk w b cs) (hn:b≠c):Blk (w.setCell ⟨c,i,none⟩ u) b cs:=by
 obtain⟨t,h⟩:=h;exact⟨t,(Below.heap_setCell w ⟨c,i,none⟩ u b hn).trans h⟩
theorem Blk.putO (h:Blk w b cs) (hn:b≠l):Blk (w.putObj l ob) b cs:=by
 obtain⟨t,h⟩:=h;exact⟨t,(World.putObj_heap_other hn).trans h⟩
theorem Blk.box (h:Blk w b #[u,v]):YQ w b u v:=⟨h.c 0,h.c 1,h.f 0,h.f 1,h.lt⟩
end
theorem Xr {w W:World} {l:Nat} {ob:Obj} (h:Below w.heap.size w W) (hl:w.heap.size<=l):Below w.heap.size w (W.putObj l ob):=
 h.trans ⟨rfl,rfl,rfl,by simp,fun k hk=>World.putObj_heap_other (by omega)⟩
theorem Xc {w:World} {l c i:Nat} {u:Value} {ob:Obj} (h:w.heap[l]?=some ob) (hn:l≠c):(w.setCell ⟨c,i,none⟩ u).heap[l]?=some ob:=(Below.heap_setCell w ⟨c,i,none⟩ u l hn).trans h
theorem B6 {l l':List UInt8} (hl:l.length<=1000000) (hl':l'.length<=1000000) (h0:val l'≠0) {q:Rat} (eq:Rat.divInt (val l) (val l')=q):Ret 108 #[.string ⟨l.toArray⟩,.string ⟨l'.toArray⟩] (Value.agg #[.string ⟨List.toArray (fN q)⟩,.string ⟨List.toArray (fD q)⟩]):=fun w hG=>by
 have C1:=Lh (ZbI (l:=l) (l':=l') hl hl' h0 eq);have x3:=YQ.new w (.string ⟨#[]⟩) (.string ⟨#[]⟩) 34;have hb:=Zb w (.cells #[.string ⟨#[]⟩,.string ⟨#[]⟩] 34);clear hl hl' h0 eq;go_enter func108,ntmps108;go_wp2_with fail
 refine (C1.out.of hG hb).mono ?_
 rintro e w2 ⟨rfl,hb2⟩;have x4:=YQ.new w2 (.string ⟨(fN q).toArray⟩) (.string ⟨(fD q).toArray⟩) 34;have hbA:=Zb w2 (.cells #[.string ⟨(fN (q)).toArray⟩,.string ⟨(fD (q)).toArray⟩] 34);replace x3:=(x3.below hb2).below hbA;replace hb:=bto hb (bto hb2 hbA);have g0:=x3.c0;have g1:=x3.c1;have g2:=x3.f0;have g3:=x3.f1;have p0:=x4.c0;have p1:=x4.c1;clear hb2 hbA;go_wp2;have hy:=x3.set (.string ⟨(fN q).toArray⟩) (.string ⟨(fD q).toArray⟩);have d0:=hy.c0;have d1:=hy.c1;refine bodyPost_ret (v:=(Value.agg #[.string ⟨List.toArray (fN q)⟩,.string ⟨List.toArray (fD q)⟩])) (by simp[results,results108,go_sem,d0,d1]) rfl ?_
 exact⟨rfl,ZF hb (Nl _) _ _⟩
def Jy (w:World) (gf:Nat) (lb:Array Value) (qs:List Rat) (M:Nat):Prop:=
 ∀(m lw:Nat) (S:List Rat->World->Prop),(∀ys W,S ys W->Below w.heap.size w W)->(∀ys W W',S ys W->Below W.heap.size W W'->S ys W')->
  (∀ys y W,S ys W->Bd M y->ys.length<qs.length->YieldAt Fence.wide (m-1) prog lw #[(Value.agg #[.string ⟨List.toArray (fN y)⟩,.string ⟨List.toArray (fD y)⟩])] W fun e W'=>e=.returned (.bool true)/\S (ys++[y]) W')->
  ∀W,S [] W->CallsIn Fence.wide m prog gf (#[.func (.yield lw) #[] #[]]++lb) W fun e W'=>(∃v,e=.returned v)/\S qs W'
theorem EC (bl:Nat) (A:Option Addr) (ts:List Pnt) (n c:Nat) (w:World) (hG:Z5 w) (hn:ts.length=n) (hn0:1<=n) (hn3:n<=1000) (hok:∀t∈ts,QW t) (hp:Ln (pts ts)) (h:Nm w A ts) (hbl:Blk w bl #[.slice A n c]) :
  Jy w 107 #[.pointer (some ⟨bl,0,none⟩)] (Wd (pts ts)) 42:=by
 intro m lw S hSB hSm hY W hS;have HI:=Lh h;have HP:=Lh hp;have HS0:=Lh hok;have HB:=Lh hSB;have HM:=Lh hSm;have HY:=Lh hY;have HX:=Lh hS;have hn1:ts.length<=n:=by omega
 have hn2:n<=ts.length:=by omega
 have HFL:Hid ((Wd (pts ts)).length=n-1):=by show _=_;rw[SQ,Mo];omega
 clear h hp hok hSB hSm hY hS hn;show CallsIn Fence.wide m prog 107 #[.func (.yield lw) #[] #[],.pointer (some ⟨bl,0,none⟩)] W _;refine callsIn_of_wp func107 rfl trivial ?_ rfl;simp only[ntmps107,List.size_toArray,List.length_cons,List.length_nil,Nat.reduceAdd,Nat.reduceSub,Array.replicate_succ,Array.replicate_zero,List.push_toArray,List.append_toArray,List.nil_append,List.cons_append]
 gi_wp2_with fail
 gi_loopw [3] (fun iv wr=>∃(k:Nat) (ys:List Rat),k+1<=n/\iv=.int .i64 ((k:Int)+1)/\Hid (ys.length=k)/\Hid (ys++Wd (pts (ts.drop k))=Wd (pts ts))/\Hid (S ys wr)) (fun iv _=>n+1-(intOf iv).toNat)
 case atStart=>exact⟨0,[],hn0,rfl,rfl,rfl,HX.out⟩
 case round=>
  clear HX;obtain⟨k,ys,hk,rfl,HL,HQ,HX⟩:=hrel;have hb:=HB.out _ _ HX.out;have hGr:=hG.below hb;have hblk:=hbl.below hb;have q0:wr.cell? ⟨bl,0,none⟩=some (.slice A n c):=hblk.c 0
  by_cases hlk:k+1<n
  rotate_left
  ·have HE:Hid (S (Wd (pts ts)) wr):=by
    have h1:=HQ.out;rw[EA (by omega),List.append_nil] at h1
    show S _ wr;rw[<-h1];exact HX.out
   have e1:decide ((k:Int)+1<n)=false:=Df (by omega)
   clear HQ HX HL
   gi_wp2
   go_end0
   exact⟨⟨_,rfl⟩,HE.out⟩
  have e1:decide ((k:Int)+1<n)=true:=Dt (by omega)
  obtain⟨t,ht⟩:∃t,ts[k]?=some t:=⟨_,List.getElem?_eq_getElem (by omega)⟩
  obtain⟨u,hu⟩:∃u,ts[k+1]?=some u:=⟨_,List.getElem?_eq_getElem (by omega)⟩
  have oT:=HS0.out t (Lm ht);have oU:=HS0.out u (Lm hu);have hpos:=IM HP.out ht hu;have HBd:=Lh (EB hpos oT oU);have HN:=Lh (GB ht hu);have hl1:=oT.lv;have hl2:=oT.lf;have hl3:=oU.lv;have C1:=Lh (Jv t (by omega) (by omega))
  have hyl:(canon (val t.vl+val t.fl)).length<=100:=Nt (Zl _ 62 (by have h1:=Zo (l:=t.vl) (k:=60) (by omega);have h2:=Zo (l:=t.fl) (k:=60) (by omega);have h3:=Int.natAbs_add_le (val t.vl) (val t.fl);have h4:(10:Nat) ^ 60+10 ^ 60<=10 ^ 62:=(by decide);omega)) (by decide)
  have C2:=Lh (B6 (l:=u.vl) (l':=canon (val t.vl+val t.fl)) (by omega) (by omega) (by rw[Zh];omega) (show _=Rat.divInt (val u.vl) (val t.vl+val t.fl) by rw[Zh]))
  obtain⟨y,hy⟩:∃y,y=Rat.divInt (val u.vl) (val t.vl+val t.fl):=⟨_,rfl⟩
  rw[<-hy] at C2 HN HBd;obtain⟨sm,hsm⟩:∃sm,sm=canon (val t.vl+val t.fl):=⟨_,rfl⟩
  rw[<-hsm] at C1 C2;have HQ2:Hid (ys++[y]++Wd (pts (ts.drop (k+1)))=Wd (pts ts)):=by
   show _=_;rw[List.append_assoc,List.singleton_append,<-HN.out];exact HQ.out
  have HL2:Hid ((ys++[y]).length=k+1):=by show _=_;rw[List.length_append,HL.out];rfl
  have HYY:Hid (∀W,S ys W->YieldAt Fence.wide (m-1) prog lw #[(Value.agg #[.string ⟨List.toArray (fN y)⟩,.string ⟨List.toArray (fD y)⟩])] W fun e W'=>e=.returned (.bool true)/\S (ys++[y]) W'):=fun W h1=>HY.out ys y W h1 HBd.out (by rw[HFL.out,HL.out];omega)
  obtain⟨b,o,rfl,hbs,p0,p1,p2⟩:=(HI.out.below hb) k t ht;obtain⟨b',o',hA',hbs',-,r1,-⟩:=(HI.out.below hb) (k+1) u hu;obtain⟨rfl,rfl⟩:b=b'/\o=o':=by injection hA' with hA';injection hA' with h1 h2;exact⟨h1,h2⟩
  have hwr:IntKind.i64.wrap ((k:Int)+1-1)=(k:Int):=by rw[Go.IntWalk.i64_in _ (by omega)];omega
  have hwr2:IntKind.i64.wrap (k:Int)=(k:Int):=Go.IntWalk.i64_in _ (by omega)
  have hko:k<n:=by omega
  have k0:(k:Int)+1-1=(k:Int):=by omega
  have k1:((k:Int)+1).toNat=k+1:=by omega
  have k2:(k:Int)+1<n:=by omega
  have k3:(k:Int)<n:=by omega
  have k4:0<=(k:Int)+1:=by omega
  clear ht hu oT oU hpos hl1 hl2 hl3 hyl hy hsm HBd HN HQ HL hbs' hA' hb
  gi_wp2_with fail
  refine Vw (by simp) (by simp) (by kernel_rfl) (by kernel_rfl) (by kernel_rfl) (by kernel_rfl) (by kernel_rfl) ?_
  simp only[List.dropLast_cons_cons,List.dropLast_singleton,List.getLast_cons_cons,List.getLast_singleton];refine KeV ?_;simp only[Act.put,StT,StZ,StS,Nat.reduceAdd];refine KeW (fun ρ wz hw=>by have q0:wz.cell? ⟨bl,0,none⟩=some (.slice (some ⟨b,o,none⟩) n c):=(hblk.below hw).c 0;go_simp;try rfl) ?_
  iterate 3
   simp only[Act.put,StT,StZ,StS,Nat.reduceAdd];refine KeV ?_
  simp only[Act.put,StT,StZ,StS,Nat.reduceAdd];refine KeW (fun ρ wz hw=>by have q0:=(hw.cell (p:=⟨b,o+(k+1)*3+1,none⟩) hbs).trans r1;go_simp;try rfl) ?_
  simp only[Act.put,StT,StZ,StS,Nat.reduceAdd];refine KeW (fun ρ wz hw=>by have q0:wz.cell? ⟨bl,0,none⟩=some (.slice (some ⟨b,o,none⟩) n c):=(hblk.below hw).c 0;go_simp;try rfl) ?_
  iterate 3
   simp only[Act.put,StT,StZ,StS,Nat.reduceAdd];refine KeV ?_
  simp only[Act.put,StT,StZ,StS,Nat.reduceAdd];refine KeW (fun ρ wz hw=>by have q0:=(hw.cell (p:=⟨b,o+k*3,none⟩) hbs).trans p0;have q1:=(hw.cell (p:=⟨b,o+k*3+1,none⟩) hbs).trans p1;have q2:=(hw.cell (p:=⟨b,o+k*3+2,none⟩) hbs).trans p2;go_simp;try rfl) ?_
  simp only[Act.put,StT,StZ,StS,Nat.reduceAdd];refine KeC (fun wz hw=>C1.out.of hGr hw) ?_
  simp only[Act.put,StT,StZ,StS,Nat.reduceAdd];refine KeC (fun wz hw=>C2.out.of hGr hw) ?_
  simp only[Act.put,StT,StZ,StS,Nat.reduceAdd];intro ρ w21 hF;dsimp only;have HX3:=Lh (HM.out _ _ _ HX.out hF.below);clear hF HX q0 p0 p1 p2 r1 C1 C2;obtain⟨fn,tmps,assign,body,hyr,hR⟩:=HYY.out w21 HX3.out
  gi_wp2
  refine⟨fun h=>(by cases h),hR.mono ?_⟩
  rintro e W3 ⟨rfl,hS3⟩;have HX4:=Lh hS3;clear hS3 hR hyr
  gi_wp2
  go_roundw
  case rel=>exact⟨k+1,ys++[y],by omega,by go_num,HL2.out,HQ2.out,HX4.out⟩
  case measure=>simp[intOf];omega
theorem ED (A:Option Addr) (n c:Nat) (w:World) :
  Calls prog 44 #[.slice A n c] w fun e w'=>e=.returned (.func (.func 107) #[] #[.pointer (some ⟨w.heap.size,0,none⟩)])/\w'=w.alloc (.cells #[.slice A n c] 23):=by
 go_enter func44,ntmps44;go_wp2_with fail;go_ret;exact⟨rfl,rfl⟩
end Go.Proofs.YtpieeldbamklkaaGreatDoor
namespace Go.Proofs.YtpieeldbamklkaaGreatDoor
open Go.RowKit Go.Shelf Num
attribute [local go_sem] Oper.semAt_some
structure V2 (w:World) (R:Loop) (o d l M:Nat) (ys:List Rat) (W:World):Prop where
 below:Below w.heap.size w W
 loop:W.heap[l]?=some (.loop R)
 dfr:W.heap[d]?=some (.deferred (some []))
 res:Blk W w.heap.size #[.string ⟨#[]⟩,.string ⟨#[]⟩]
 out:Blk W o #[.string ⟨(fN (Yw 1 ys)).toArray⟩,.string ⟨(fD (Yw 1 ys)).toArray⟩]
 bd:∀q∈ys,Bd M q
section
variable {w W W':World} {R:Loop} {o d l M:Nat} {ys:List Rat}
theorem V2.mono (h:V2 w R o d l M ys W) (hb:Below W.heap.size W W'):V2 w R o d l M ys W':=
 ⟨bto h.below hb,(hb.block _ (Ag.1 h.loop).1).trans h.loop,(hb.block _ (Ag.1 h.dfr).1).trans h.dfr,h.res.below hb,h.out.below hb,h.bd⟩
theorem V2.done {R1 R2:Loop} (hR:R2=R) (hl:l≠d/\l≠o/\l≠w.heap.size/\w.heap.size<=l) (h:V2 w R1 o d l M ys W):V2 w R o d l M ys (W.putObj l (.loop R2)):=by
 subst hR;exact⟨Xr h.below hl.2.2.2,World.putObj_heap_same (Ag.1 h.loop).1,(World.putObj_heap_other (by omega)).trans h.dfr,h.res.putO (by omega),h.out.putO (by omega),h.bd⟩
theorem V2.step (h:V2 w R o d l M ys W) {y:Rat} (hy:Bd M y) (hl:l≠o/\d≠o/\w.heap.size≠o/\w.heap.size<=o) :
  V2 w R o d l M (ys++[y]) ((W.setCell ⟨o,0,none⟩ (.string ⟨(fN (Yw 1 ys*y)).toArray⟩)).setCell ⟨o,1,none⟩ (.string ⟨(fD (Yw 1 ys*y)).toArray⟩)):=by
 have e:=Jw ys 1 y;refine⟨(h.below.setCell (p:=⟨_,0,none⟩) hl.2.2.2 _).setCell (p:=⟨_,1,none⟩) hl.2.2.2 _,Xc (Xc h.loop hl.1) hl.1,Xc (Xc h.dfr hl.2.1) hl.2.1,(h.res.setO hl.2.2.1).setO hl.2.2.1,?_,?_⟩
 ·rw[e];exact h.out.set2 _ _
 ·intro q hq;rcases List.mem_append.1 hq with hq|hq
  ·exact h.bd q hq
  ·rw[List.mem_singleton.1 hq];exact hy
end
theorem GC (gf:Nat) (lb:Array Value) (qs:List Rat) (M:Nat) (w:World) (hG:Z5 w) (hEn:∀args w,(callFunc gf args).run prog w=.ok (.enter gf args) w) (hI:Jy w gf lb qs M) (hM:1+M*qs.length+M<=90000) :
  Calls prog 84 #[.func (.func gf) #[] lb] w fun e w'=>e=.returned (Value.agg #[.string ⟨List.toArray (fN (Yw 1 qs))⟩,.string ⟨List.toArray (fD (Yw 1 qs))⟩])/\Below w.heap.size w w':=by
 have c0:Ret 31 #[.string ⟨[49].toArray⟩] (Value.agg #[.string ⟨List.toArray (fN ((1:Rat)))⟩,.string ⟨List.toArray (fD ((1:Rat)))⟩]):=by have h:=rOf (l:=[49]) (by decide) (z:=1) (by decide);exact h
 have C0:=Lh c0;have HI:=Lh hI;have HE:=Lh hEn;have hb0:=Zb w (.cells #[.string ⟨#[]⟩,.string ⟨#[]⟩] 34);clear c0 hI hEn;refine (callsIn_wide (n:=5)).1 ?_;refine callsIn_of_wp_marks func84 rfl trivial ?_ rfl;simp only[ntmps84,List.size_toArray,List.length_cons,List.length_nil,Nat.reduceAdd,Nat.reduceSub,Array.replicate_succ,Array.replicate_zero,List.push_toArray,List.append_toArray,List.nil_append,List.cons_append]
 gi_wp2_with (refine⟨trivial,?_⟩;gi_at_call 31;(with_reducible refine (callsIn_wide.2 (C0.out.of hG hb0)).mono ?_);rintro e w3 ⟨rfl,hb3⟩)
 refine Vs (gf:=gf) (lb:=lb) rfl HE.out ?_;intro fn R hR;have hs3:w.heap.size+1<=w3.heap.size:=by have:=hb3.size;simpa using this
 have y2:Blk w3 w.heap.size #[.string ⟨#[]⟩,.string ⟨#[]⟩]:=(Blk.new w _ 34).below hb3;obtain⟨W0,hW0⟩:∃W0,W0=w3.alloc (.cells #[.string ⟨(fN ((1:Rat))).toArray⟩,.string ⟨(fD ((1:Rat))).toArray⟩] 34):=⟨_,rfl⟩
 have hsz:W0.heap.size=w3.heap.size+1:=by rw[hW0];simp only[World.size_alloc]
 have hbA:Below w.heap.size w W0:=by rw[hW0];exact bto (bto hb0 hb3) (Zb _ _)
 have x2:Blk W0 w.heap.size #[.string ⟨#[]⟩,.string ⟨#[]⟩]:=by rw[hW0];exact y2.below (Zb _ _)
 have x3:Blk W0 w3.heap.size #[.string ⟨(fN (1:Rat)).toArray⟩,.string ⟨(fD (1:Rat)).toArray⟩]:=by rw[hW0];exact Blk.new _ _ _
 rw[<-hW0] at hR ⊢;clear hW0 y2;obtain⟨W1,hW1⟩:∃W1,W1=(W0.alloc (.deferred (some []))).alloc (.loop R):=⟨_,rfl⟩
 have hbB:Below W0.heap.size W0 W1:=by rw[hW1];exact bto (Zb _ _) (Zb _ _)
 have hD:W1.heap[W0.heap.size]?=some (.deferred (some [])):=by rw[hW1];exact (Below.heap_alloc _ _ _ (by simp)).trans (World.alloc_heap_new _ _)
 have hL:W1.heap[W0.heap.size+1]?=some (.loop R):=by
  rw[hW1]
  have:=World.alloc_heap_new (W0.alloc (.deferred (some []))) (.loop R)
  rwa [World.size_alloc] at this
 rw[<-hW1];obtain⟨l,hl⟩:∃l,l=W0.heap.size+1:=⟨_,rfl⟩
 obtain⟨d,hd⟩:∃d,d=W0.heap.size:=⟨_,rfl⟩
 obtain⟨o,ho⟩:∃o,o=w3.heap.size:=⟨_,rfl⟩
 rw[<-hl] at hL ⊢;rw[<-hd] at hD hR ⊢;rw[<-ho] at x3 hR;have hS0:V2 w R o d l M [] W1:=⟨bto hbA hbB,hL,hD,x2.below hbB,x3.below hbB,fun q hq=>by cases hq⟩
 have n1:l≠d/\l≠o/\l≠w.heap.size/\w.heap.size<=l:=by omega
 have n2:l≠o/\d≠o/\w.heap.size≠o/\w.heap.size<=o:=by omega
 have n3:w.heap.size<=d/\d≠w.heap.size:=by omega
 (try rw[<-ho])
 clear hW1 hbB hD hL x2 x3 hbA hsz hl hd ho hs3 hb3 C0;have hY:∀ys y W,V2 w R o d l M ys W->Bd M y->ys.length<qs.length->YieldAt Fence.wide (5-1-1) prog l #[(Value.agg #[.string ⟨List.toArray (fN y)⟩,.string ⟨List.toArray (fD y)⟩])] W fun e W'=>e=.returned (.bool true)/\V2 w R o d l M (ys++[y]) W':=by
  intro ys y W hS hyb hlen;have hy:=run_yield (P:=prog) (args:=#[(Value.agg #[.string ⟨List.toArray (fN y)⟩,.string ⟨List.toArray (fD y)⟩])]) hS.loop (by rw[hR];rfl)
  refine⟨R.fn,_,R.assign,R.body,hy,roundIn_of_wpIn trivial ?_⟩;have hlW:=(Ag.1 hS.loop).1;have hSa:=hS.mono (Zb W (.cells #[.string ⟨(fN (y)).toArray⟩,.string ⟨(fD (y)).toArray⟩] 34));have hbr:=run_beginRound (P:=prog) hSa.loop (by rw[hR])
  have hS1:V2 w { R with state:=.busy } o d l M ys ((W.alloc (.cells #[.string ⟨(fN (y)).toArray⟩,.string ⟨(fD (y)).toArray⟩] 34)).putObj l (.loop { R with state:=.busy })):=V2.done rfl n1 hSa
  have x4:Blk ((W.alloc (.cells #[.string ⟨(fN (y)).toArray⟩,.string ⟨(fD (y)).toArray⟩] 34)).putObj l (.loop { R with state:=.busy })) W.heap.size #[.string ⟨(fN y).toArray⟩,.string ⟨(fD y).toArray⟩]:=(Blk.new W _ 34).putO (by omega)
  obtain⟨Wb,hWb⟩:∃Wb,Wb=(W.alloc (.cells #[.string ⟨(fN (y)).toArray⟩,.string ⟨(fD (y)).toArray⟩] 34)).putObj l (.loop { R with state:=.busy }):=⟨_,rfl⟩
  rw[<-hWb] at hbr hS1 x4;have hRe:({ { R with state:=.busy } with state:=.ready,pending:=none }:Loop)=R:=by rw[hR]
  obtain⟨R1,hR1⟩:∃R1,R1={ R with state:=.busy }:=⟨_,rfl⟩
  rw[<-hR1] at hS1 hRe;have hxb:Bd (1+M*ys.length) (Yw 1 ys):=Oq ys Jx hS1.bd;have hlen2:M*ys.length<=M*qs.length:=Nat.mul_le_mul_left M (by omega)
  have HS2:=Lh hS1;have HC:=Lh (ZbH (UX hxb (by omega)) (UX hyb (by omega)) rfl)
  have HST:Hid (∀W',V2 w R1 o d l M ys W'->V2 w R1 o d l M (ys++[y]) ((W'.setCell ⟨o,0,none⟩ (.string ⟨(fN (Yw 1 ys*y)).toArray⟩)).setCell ⟨o,1,none⟩ (.string ⟨(fD (Yw 1 ys*y)).toArray⟩))):=fun W' h=>h.step hyb n2
  have HBr:=Lh hbr;have HRe:=Lh hRe;obtain⟨x,hx⟩:∃x,x=Yw 1 ys:=⟨_,rfl⟩
  obtain⟨z,hz⟩:∃z,z=Yw 1 ys*y:=⟨_,rfl⟩
  rw[<-hz] at HC HST;have q0:Wb.cell? ⟨o,0,none⟩=some (.string ⟨(fN x).toArray⟩):=by rw[hx];exact HS2.out.out.c 0
  have q1:Wb.cell? ⟨o,1,none⟩=some (.string ⟨(fD x).toArray⟩):=by rw[hx];exact HS2.out.out.c 1
  rw[<-hx] at HC;have p0:Wb.cell? ⟨W.heap.size,0,none⟩=some (.string ⟨(fN y).toArray⟩):=x4.c 0;have p1:Wb.cell? ⟨W.heap.size,1,none⟩=some (.string ⟨(fD y).toArray⟩):=x4.c 1;have hbW:=HS2.out.below;have HX:=Lh hx;clear hWb hbr hy hS hSa hlW hS1 hRe hR1 hxb hlen hlen2 hyb x4 hx hz hS0;rw[hR]
  gi_wp2
  refine⟨_,HBr.out,?_⟩
  gi_wp2_with fail
  refine⟨trivial,?_⟩;refine (CallsIn.inRound l (callsIn_wide.2 (HC.out.of hG hbW))).mono ?_;rintro e w4 ⟨rfl,hb4⟩;have HS4:=Lh (HS2.out.mono hb4);have HGO:=Lh (HST.out _ HS4.out);have hF:=HS4.out.out.box;have g0:=hF.c0;have g1:=hF.c1;have g2:=hF.f0;have g3:=hF.f1;rw[<-HX.out] at g0 g1;clear q0 q1 p0 p1 HC hbW HS2 HS4 hb4 hF HBr HST HX
  gi_wp2
  exact⟨_,_,run_endRound (P:=prog) none HGO.out.loop,rfl,V2.done (HRe.out.trans hR) n1 HGO.out⟩
 have key:=HI.out (5-1) l (V2 w R o d l M) (fun ys W h=>h.below) (fun ys W W' h hb=>h.mono hb) hY W1 hS0
 refine key.mono ?_;rintro e W2 ⟨hv,hS2⟩;refine⟨hv,hS2.loop,?_⟩;have hS3:V2 w { R with state:=.exhausted } o d l M qs (W2.putObj l (.loop { R with state:=.exhausted })):=V2.done rfl n1 hS2
 obtain⟨W3,hW3⟩:∃W3,W3=W2.putObj l (.loop { R with state:=.exhausted }):=⟨_,rfl⟩
 rw[<-hW3] at hS3 ⊢;have hF:=hS3.out.box;have hH:=hS3.res.box;have q0:=hF.c0;have q1:=hF.c1;have g0:=hH.c0;have g1:=hH.c1;have g2:=hH.f0;have g3:=hH.f1;have hD5:=hS3.dfr;have hb5:=hS3.below;have HBk:=Lh (hS3.res.set2 (.string ⟨(fN (Yw 1 qs)).toArray⟩) (.string ⟨(fD (Yw 1 qs)).toArray⟩));clear hW3 hS3 key hY hS2 hS0 hv hF hH HI;obtain⟨q,hq⟩:∃q,q=Yw 1 qs:=⟨_,rfl⟩
 have HQ:=Lh hq;rw[<-hq] at q0 q1 HBk;clear hq
 gi_wp2
 have hD6:=Xc (i:=1) (u:=.string ⟨(fD q).toArray⟩) (Xc (i:=0) (u:=.string ⟨(fN q).toArray⟩) hD5 n3.2) n3.2;have hP:=HBk.out.putO (l:=d) (ob:=.deferred none) (by omega)
 have d0:=hP.c 0;have d1:=hP.c 1;refine⟨by simp,.inl ⟨_,_,rfl,run_takeDeferred hD6,?_⟩⟩
 refine⟨(Value.agg #[.string ⟨List.toArray (fN q)⟩,.string ⟨List.toArray (fD q)⟩]),by simp[results,results84,go_sem,d0,d1],?_⟩
 exact⟨by rw[HQ.out],Xr (ZF hb5 (Nl _) _ _) n3.1⟩
theorem Z0 {w w':World} {B k sz:Nat} {ty:TypeId} {v:Value} {cs:List Value} (h:w.ownsRow B ty sz v k cs) (hb:Below w.heap.size w w'):w'.ownsRow B ty sz v k cs:=by
 refine⟨h.1,?_⟩;rcases h.2 with h2|⟨g,cap,cur,e,hB,hg,r⟩
 ·exact .inl h2
 ·exact .inr ⟨g,cap,cur,e,hB,(hb.block g (Ag.1 hg).1).trans hg,r⟩
section
variable {w W W':World} {R:Loop} {d l:Nat} {ys:List Rat}
end
end Go.Proofs.YtpieeldbamklkaaGreatDoor
