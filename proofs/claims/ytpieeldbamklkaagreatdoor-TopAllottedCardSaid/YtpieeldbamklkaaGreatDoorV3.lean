/- Texts put together: Bz Bw Rl Oh Oi Mn. -/
import Derived.Test.YtpieeldbamklkaaGreatDoorV2
import Derived.OrdersIn
import Derived.TacticsIn
import Derived.RangeFuncCalls
import Derived.Deep.MidRow
import Derived.Shelf.SlicesE.Clone
import Derived.Calls
import Derived.Lib.QuietBelow
set_option maxHeartbeats 4000000
set_option maxRecDepth 100000
open Go.Proofs.Tryz
namespace Go.Proofs.YtpieeldbamklkaaGreatDoor
open Go.RowKit
inductive U1 where
 | val (v:Value)
 | get (b:Nat) (ob:Obj) (v:Value)
 | put (b:Nat) (ob0 ob:Obj)
abbrev Fx:=Nat->Option Obj
def U1.at:U1->Value
 | .val v=>v
 | .get _ _ v=>v
 | .put _ _ _=>undef
def U1.fx (F:Fx):U1->Fx
 | .val _=>F
 | .get _ _ _=>F
 | .put b _ ob=>fun k=>if k=b then some ob else F k
def U1.pre (F:Fx):U1->Prop
 | .val _=>True
 | .get b ob _=>F b=some ob
 | .put b ob0 _=>F b=some ob0
section
variable {P:Program} {ops:Array Oper} {md:Region.Mode} {tch:Nat->List Nat} {C:World->Prop}
def Xy (md:Region.Mode) (o:Oper) (i:Nat):Prop:=∃e∈o.after,Region.binds md e=true/\e.on=i
def Xu (P:Program) (ops:Array Oper) (md:Region.Mode) (tch:Nat->List Nat) (C:World->Prop) (i:Nat) (o:Oper) (a:Act):U1->Prop
 | .val v=>(Region.wanted o (yielded ops a.tmps)=true/\∀w,C w->VX P w v ((execOp a.eval o).run P w))∨(Region.wanted o (yielded ops a.tmps)=false/\v=undef)
 | .get b ob v=>i∈tch b/\Region.wanted o (yielded ops a.tmps)=true/\∀w,C w->w.heap[b]?=some ob->(execOp a.eval o).run P w=.ok (.value v) w
 | .put b ob0 ob=>(i∈tch b/\∀j oj,j∈tch b->j≠i->ops[j]?=some oj->Xy md o j∨Xy md oj i)/\
   Region.wanted o (yielded ops a.tmps)=true/\∀w,C w->w.heap[b]?=some ob0->∃w',(execOp a.eval o).run P w=.ok .skip w'/\Xw w w' b ob
theorem Xu.of_same {i:Nat} {o:Oper} {x:U1} {a a':Act} (hy:Xu P ops md tch C i o a x) (he:execOp a'.eval o=execOp a.eval o)
  (hw:Region.wanted o (yielded ops a'.tmps)=Region.wanted o (yielded ops a.tmps)):Xu P ops md tch C i o a' x:=by
 cases x<;>simp only[Xu,he,hw] at *<;>exact hy
def Nk (P:Program) (ops:Array Oper) (md:Region.Mode) (tch:Nat->List Nat) (C:World->Prop) (i:Nat) (K:Act->Fx->Prop) (a:Act) (F:Fx):Prop:=
 match ops[i]? with
 | none=>K a F
 | some o=>∃x:U1,x.pre F/\Xu P ops md tch C i o a x/\K (a.put o.dst x.at) (x.fx F)
theorem GX {i:Nat} {a:Act} {F:Fx} {K K':Act->Fx->Prop} (h:∀a F,K a F->K' a F) (hh:Nk P ops md tch C i K a F):Nk P ops md tch C i K' a F:=by
 unfold Nk at *
 split
 ·exact h _ _ (by simpa [*] using hh)
 ·rename_i o ho;simp only[ho] at hh;obtain⟨x,h0,h1,h2⟩:=hh;exact⟨x,h0,h1,h _ _ h2⟩
def OF (P:Program) (md:Region.Mode) (ops:Array Oper) (tch:Nat->List Nat) (C:World->Prop) (Q:Act->Fx->Prop):Nat->Array Bool->Act->Fx->Prop
 | 0,listed,a,F=>Region.ready md ops listed=[]/\Q a F
 | fuel+1,listed,a,F=>
  (Region.ready md ops listed=[]->Q a F)/\
  ∀i∈Region.ready md ops listed,Nk P ops md tch C i (OF P md ops tch C Q fuel (listed.setIfInBounds i true)) a F
theorem ZbA {i j:Nat} {oi oj:Oper} {a a':Act} {x y:U1} (hij:i≠j) (hi:ops[i]?=some oi) (hj:ops[j]?=some oj) (n1:¬Xy md oj i) (n2:¬Xy md oi j)
  (hx:Xu P ops md tch C i oi a x) (hy:Xu P ops md tch C j oj a' y) (F:Fx) (px:x.pre F) (py:y.pre (x.fx F)) :
  y.pre F/\x.pre (y.fx F)/\y.fx (x.fx F)=x.fx (y.fx F):=by
 cases x with
 | val v=>exact⟨py,trivial,rfl⟩
 | get b ob v=>
  cases y with
  | val v'=>exact⟨trivial,px,rfl⟩
  | get b' ob' v'=>exact⟨py,px,rfl⟩
  | put b' o0 o1=>
   have hne:b'≠b:=fun e=>by
    subst e;rcases hy.1.2 i oi hx.1 hij hi with h|h
    ·exact n1 h
    ·exact n2 h
   refine⟨py,?_,rfl⟩;show (if b=b' then some o1 else F b)=_
   rw[if_neg (Ne.symm hne)];exact px
 | put b o0 o1=>
  cases y with
  | val v'=>exact⟨trivial,px,rfl⟩
  | get b' ob' v'=>
   have hne:b'≠b:=fun e=>by
    subst e;rcases hx.1.2 j oj hy.1 (Ne.symm hij) hj with h|h
    ·exact n2 h
    ·exact n1 h
   have py:(if b'=b then some o1 else F b')=some ob':=py
   rw[if_neg hne] at py;exact⟨py,px,rfl⟩
  | put b' o0' o1'=>
   have hne:b'≠b:=fun e=>by
    subst e;rcases hx.1.2 j oj hy.1.1 (Ne.symm hij) hj with h|h
    ·exact n2 h
    ·exact n1 h
   have py:(if b'=b then some o1 else F b')=some o0':=py
   rw[if_neg hne] at py;refine⟨py,?_,?_⟩
   ·show (if b=b' then some o1' else F b)=_
    rw[if_neg (Ne.symm hne)];exact px
   ·funext k
    simp only[U1.fx]
    by_cases h1:k=b'
    ·rw[if_pos h1,if_neg (fun e=>hne (h1.symm.trans e)),if_pos h1]
    ·rw[if_neg h1]
     by_cases h2:k=b
     ·rw[if_pos h2,if_pos h2]
     ·rw[if_neg h2,if_neg h2,if_neg h1]
theorem Db {i j:Nat} {oi oj:Oper} {x:U1} (hij:i≠j) (hj:ops[j]?=some oj) (hap:oi.apart ops oj=true) (n1:¬Xy md oj i) (n2:¬Xy md oi j)
  (hsi:∀cs b,oi.op≠.select cs b) (hsj:∀cs b,oj.op≠.select cs b) {K:Act->Fx->Prop} {a:Act} {F:Fx}
  (hi:ops[i]?=some oi) (hp:x.pre F) (hy:Xu P ops md tch C i oi a x) (h:Nk P ops md tch C j K (a.put oi.dst x.at) (x.fx F)) :
  Nk P ops md tch C j (fun a' F'=>x.pre F'/\Xu P ops md tch C i oi a' x/\K (a'.put oi.dst x.at) (x.fx F')) a F:=by
 obtain⟨h1,h2,h3⟩:=Oper.apart_spec hap;have hj':=hj;unfold Nk at *;simp only[hj] at h ⊢;obtain⟨y,hp',hy',hK⟩:=h;obtain⟨m1,m2,m3⟩:=ZbA hij hi hj' n1 n2 hy hy' F hp hp'
 refine⟨y,m1,hy'.of_same (execOp_put oj hsj a oi.dst _ h1).symm (wanted_put oj a oi.dst _ h1).symm,m2,
  hy.of_same (execOp_put oi hsi a oj.dst _ h3) (wanted_put oi a oj.dst _ h3),?_⟩
 have e1:(a.put oj.dst y.at).put oi.dst x.at=(a.put oi.dst x.at).put oj.dst y.at:=(Act.put_comm a _ _ h2).symm;rw[e1,<-m3];exact hK
theorem MC {Q:Act->Fx->Prop} {i:Nat} {oi:Oper} {x:U1} (hi:ops[i]?=some oi) (hsel:∀(j:Nat) (o:Oper) cs b,ops[j]?=some o->o.op≠.select cs b) :
  ∀(fuel:Nat) (listed:Array Bool) (a:Act) (F:Fx),
   (∀j oj,ops[j]?=some oj->j≠i->listed.getD j true=false->(∀e∈oj.after,Region.binds md e=true->e.on≠i)->oi.apart ops oj=true)->
   i∈Region.ready md ops listed->x.pre F->Xu P ops md tch C i oi a x->
   OF P md ops tch C Q fuel (listed.setIfInBounds i true) (a.put oi.dst x.at) (x.fx F)->OF P md ops tch C Q (fuel+1) listed a F:=by
 intro fuel
 induction fuel with
 | zero=>
  intro listed a F _ hr hp hy H;refine⟨fun h=>(by rw[h] at hr;cases hr),fun j hj=>?_⟩
  by_cases hji:j=i
  ·subst hji;unfold Nk;simp only[hi];exact⟨x,hp,hy,H⟩
  ·have:=ready_mono hj hji
   rw[H.1] at this;cases this
 | succ fuel ih=>
  intro listed a F hfree hr hp hy H;refine⟨fun h=>(by rw[h] at hr;cases hr),fun j hj=>?_⟩
  by_cases hji:j=i
  ·subst hji;unfold Nk;simp only[hi];exact⟨x,hp,hy,H⟩
  ·have h1:=H.2 j (ready_mono hj hji);obtain⟨hjun,oj,hoj,hall⟩:=mem_ready.1 hj;have hnot:∀e∈oj.after,Region.binds md e=true->e.on≠i:=fun e he hb heq=>by
    have h1:=hall e he hb;have h0:=(mem_ready.1 hr).1;rw[heq] at h1;rcases Nat.lt_or_ge i listed.size with h'|h'
    ·simp[h'] at h0 h1;rw[h0] at h1;cases h1
    ·simp[Array.getElem?_eq_none h'] at h1
   have hnot2:¬Xy md oi j:=fun ⟨e,he,hb,heq⟩=>by
    obtain⟨-,oi',hoi,hall'⟩:=mem_ready.1 hr
    have:oi'=oi:=by rw[hi] at hoi;exact (Option.some.inj hoi).symm
    subst this;have h1:=hall' e he hb;rw[heq] at h1;rcases Nat.lt_or_ge j listed.size with h'|h'
    ·simp[h'] at hjun h1;rw[hjun] at h1;cases h1
    ·simp[Array.getElem?_eq_none h'] at h1
   have hnot1:¬Xy md oj i:=fun ⟨e,he,hb,heq⟩=>hnot e he hb heq
   have h2:=Db (Ne.symm hji) hoj (hfree j oj hoj hji hjun hnot) hnot1 hnot2 (fun cs b=>hsel i oi cs b hi) (fun cs b=>hsel j oj cs b hoj) hi hp hy h1
   have hfree':∀k ok,ops[k]?=some ok->k≠i->(listed.setIfInBounds j true).getD k true=false->
     (∀e∈ok.after,Region.binds md e=true->e.on≠i)->oi.apart ops ok=true:=fun k ok hk hki hun hno=>by
    refine hfree k ok hk hki ?_ hno
    by_cases hjk:j=k
    ·subst hjk;exact hjun
    ·rw[getD_set_ne true hjk] at hun;exact hun
   refine GX (fun a' F' h3=>ih (listed.setIfInBounds j true) a' F' hfree' (ready_mono hr (Ne.symm hji)) h3.1 h3.2.1 ?_) h2
   rw[Array.setIfInBounds_comm _ _ hji];exact h3.2.2
def Yn (P:Program) (ops:Array Oper) (md:Region.Mode) (tch:Nat->List Nat) (C:World->Prop) (Q:Act->Fx->Prop):List Oper->Nat->Act->Fx->Prop
 | [],_,a,F=>Q a F
 | o::rest,i,a,F=>∃x:U1,x.pre F/\Xu P ops md tch C i o a x/\Yn P ops md tch C Q rest (i+1) (a.put o.dst x.at) (x.fx F)
theorem OG {Q:Act->Fx->Prop} (hs:Region.noSelect ops=true):∀(l:List Oper) (k:Nat) (listed:Array Bool) (a:Act) (F:Fx),(∀j,l[j]?=ops[k+j]?)->
  Region.lexFrom md ops l.length k listed=true->Yn P ops md tch C Q l k a F->OF P md ops tch C Q l.length listed a F
 | [],_,_,_,_,_,hB,h=>⟨by simpa [Region.lexFrom] using hB,h⟩
 | o::l,k,listed,a,F,hl,hB,h=>by
  have h0:ops[k]?=some o:=by simpa using (hl 0).symm
  simp only[List.length_cons,Region.lexFrom,Bool.and_eq_true] at hB;obtain⟨⟨hr,hf⟩,hB'⟩:=hB;obtain⟨x,hp,hy,hK⟩:=h;exact MC h0 (Region.noSelect_spec hs) l.length listed a F (Region.free_spec h0 hf) (by simpa using hr) hp hy
   (OG hs l (k+1) _ _ _ (fun j=>by have:=hl (j+1);simpa [Nat.add_assoc,Nat.add_comm 1 j] using this) hB' hK)
structure WV (X:Nat->Prop) (w0:World) (F:Fx) (w:World):Prop where
 below:Zz X w0 w
 box:∀b ob,F b=some ob->w.heap[b]?=some ob
 dom:∀b,F b≠none->X b
variable {X:Nat->Prop}
theorem WV.go {w0 w w':World} {F:Fx} (h:WV X w0 F w) (hb:Below w.heap.size w w'):WV X w0 F w':=
 ⟨⟨hb.os.trans h.below.os,hb.tape.trans h.below.tape,hb.output.trans h.below.output,Nt h.below.size hb.size,fun k hk hx=>(hb.block k (Nat.lt_of_lt_of_le hk h.below.size)).trans (h.below.block k hk hx)⟩,
  fun b ob hF=>(hb.block _ (Ag.1 (h.box b ob hF)).1).trans (h.box b ob hF),h.dom⟩
theorem WV.turn {w0 w w':World} {F:Fx} (h:WV X w0 F w) {b:Nat} {ob0 ob:Obj} (hF:F b=some ob0) (ht:Xw w w' b ob):WV X w0 ((U1.put b ob0 ob).fx F) w':=by
 have hX:X b:=h.dom b (by rw[hF];simp)
 refine⟨⟨ht.os.trans h.below.os,ht.tape.trans h.below.tape,ht.output.trans h.below.output,by rw[ht.size];exact h.below.size,fun k hk hx=>(ht.old k (fun e=>hx (e ▸ hX))).trans (h.below.block k hk hx)⟩,fun k o hk=>?_,fun k hk=>?_⟩
 ·simp only[U1.fx] at hk
  by_cases hkb:k=b
  ·rw[if_pos hkb] at hk;obtain rfl:=Option.some.inj hk;rw[hkb];exact ht.new
  ·rw[if_neg hkb] at hk;exact (ht.old k hkb).trans (h.box k o hk)
 ·simp only[U1.fx] at hk
  by_cases hkb:k=b
  ·rw[hkb];exact hX
  ·rw[if_neg hkb] at hk;exact h.dom k hk
structure IY (P:Program) (G:Fence):Prop where
 fn:∀f,G.fn f
 dep:G.depth.isSome=true->False
 calls:∀{n:Nat} {f:FuncId} {args:Array Value} {w:World} {R:Ending->World->Prop},Calls P f args w R->CallsIn G n P f args w R
theorem JH:IY P Fence.wide:=⟨fun _=>trivial,fun h=>(by cases h),fun h=>callsIn_wide.2 h⟩
theorem Lz (l:Nat):IY P (Fence.wide.inRound l):=⟨fun _=>trivial,fun h=>(by cases h),fun h=>CallsIn.inRound l (callsIn_wide.2 h)⟩
theorem Yd {G:Fence} {n:Nat} (hO:IY P G) (hdf:∀(i:Nat) (o:Oper),ops[i]?=some o->∀c,o.op≠.defer c) {w0:World} {Q:Act->Fx->Prop} {Q':Exit->Act->World->Prop} (hQ:∀a F w,WV X w0 F w->Q a F->Q' .normal a w) :
  ∀(fuel:Nat) (listed:Array Bool) (a:Act) (F:Fx) (w:World),WV X w0 F w->
  OF P md ops tch (Zz X w0) Q fuel listed a F->wpAnyIn G n P md ops Q' fuel listed a w
 | 0,_,_,_,_,hf,h=>⟨h.1,hQ _ _ _ hf h.2⟩
 | fuel+1,listed,a,F,w,hf,h=>by
  refine⟨fun h0=>hQ _ _ _ hf (h.1 h0),fun i hi=>?_⟩
  have h1:=h.2 i hi;obtain⟨hun,o,ho,_⟩:=mem_ready.1 hi;unfold Nk at h1;simp only[ho] at h1;obtain⟨x,hp,hy,hK⟩:=h1;unfold wpOpIn;simp only[ho];have hs:o.semAt G.round a.eval=execOp a.eval o:=Oper.semAt_eq _ _ _ (hdf i o ho);cases x with
  | val v=>
   simp only[Xu] at hy;rcases hy with ⟨hw,hr⟩|⟨hw,rfl⟩
   ·simp only[hw,if_true];have h3:=hr w hf.below;unfold Oper.wpIn;refine⟨fun _ _=>hO.fn _,?_⟩
    rw[hs];generalize (execOp a.eval o).run P w=r at *;cases r with
    | ok n w'=>
     cases n<;>simp only[VX] at h3<;>simp only[Oper.uponIn]
     case value u=>
      obtain⟨e1,e2⟩:=h3;rw[e1,e2];exact Yd hO hdf hQ fuel _ _ F w hf hK
     case skip=>
      obtain⟨e1,e2⟩:=h3;rw[e1,<-e2];exact Yd hO hdf hQ fuel _ _ F w hf hK
     case enter f args=>
      obtain⟨e1,hc⟩:=h3;rw[e1];exact⟨fun h=>(hO.dep h).elim,hO.calls (hc.mono fun e w'' ⟨he,hw''⟩=>by subst he;exact Yd hO hdf hQ fuel _ _ F w'' (hf.go hw'') hK)⟩
    | halt x w'=>simp only[VX] at h3
   ·simp only[hw,Bool.false_eq_true,if_false];exact⟨fun _ _=>hO.fn _,Yd hO hdf hQ fuel _ _ F w hf hK⟩
  | get b ob v=>
   obtain⟨-,hw,hr⟩:=hy;simp only[hw,if_true];unfold Oper.wpIn;refine⟨fun _ _=>hO.fn _,?_⟩
   rw[hs,hr w hf.below (hf.box b ob hp)];simp only[Oper.uponIn];exact Yd hO hdf hQ fuel _ _ F w hf hK
  | put b ob0 ob=>
   obtain⟨-,hw,hr⟩:=hy;simp only[hw,if_true];obtain⟨w',hr1,hr2⟩:=hr w hf.below (hf.box b ob0 hp);unfold Oper.wpIn;refine⟨fun _ _=>hO.fn _,?_⟩
   rw[hs,hr1];simp only[Oper.uponIn];exact Yd hO hdf hQ fuel _ _ _ w' (hf.turn hp hr2) hK
def IZ (l:List Oper):Bool:=l.all fun o=>match o.op with|.defer _=>false|_=>true
theorem VN {G:Fence} {n:Nat} (hO:IY P G) (tch:Nat->List Nat) {id:Nat} {Q:Exit->Act->World->Prop} {a:Act} {w:World} {l:List Oper} (F:Fx) (hm:P.follows .mixedOrders=true) (hB:Region.lexB .any l.toArray=true) (hd:IZ l=true)
  (hF:∀b ob,F b=some ob->w.heap[b]?=some ob)
  (h:Yn P l.toArray .any tch (Zz (fun b=>F b≠none) w) (fun a' F'=>∀w',WV (fun b=>F b≠none) w F' w'->Q .normal a' w') l 0 a F):(Code.region id l.toArray true).wpIn G n P Q a w:=by
 simp only[Region.lexB,Bool.and_eq_true] at hB;refine wpIn_region_any hm ?_;have hf:WV (fun b=>F b≠none) w F { w with drawn:=w.drawn+1 }:=⟨⟨rfl,rfl,rfl,Nl _,fun _ _ _=>rfl⟩,hF,fun _ h=>h⟩
 have hdf:∀(i:Nat) (o:Oper),l.toArray[i]?=some o->∀c,o.op≠.defer c:=fun i o ho c hc=>by
  have:=(List.all_eq_true.1 hd) o (Lm (by simpa using ho))
  rw[hc] at this;cases this
 refine Yd (tch:=tch) hO hdf (Q:=fun a' F'=>∀w',WV (fun b=>F b≠none) w F' w'->Q .normal a' w') (fun a' F' w' hf' h'=>h' w' hf') _ _ a F _ hf ?_
 have:=OG (tch:=tch) (C:=Zz (fun b=>F b≠none) w) (md:=.any) hB.1 l 0 (Array.replicate l.toArray.size false) a F (by simp) (by simpa using hB.2) h
 simpa using this
theorem ZL (tch:Nat->List Nat) {id:Nat} {Q:Exit->Act->World->Prop} {a:Act} {w:World} {l:List Oper} (F:Fx) (hm:P.follows .mixedOrders=true) (hB:Region.lexB .any l.toArray=true) (hd:IZ l=true)
  (hF:∀b ob,F b=some ob->w.heap[b]?=some ob)
  (h:Yn P l.toArray .any tch (Zz (fun b=>F b≠none) w) (fun a' F'=>∀w',WV (fun b=>F b≠none) w F' w'->Q .normal a' w') l 0 a F):(Code.region id l.toArray true).wp P Q a w:=
 wpIn_wide.1 (VN (n:=0) JH tch F hm hB hd hF h)
variable {Q:Act->Fx->Prop} {o:Oper} {rest:List Oper} {i:Nat} {a:Act} {F:Fx}
theorem GY (v:Value) (hw:Region.wanted o (yielded ops a.tmps)=true) (h:∀w,C w->(execOp a.eval o).run P w=.ok (.value v) w)
  (hn:Yn P ops md tch C Q rest (i+1) (a.put o.dst v) F):Yn P ops md tch C Q (o::rest) i a F:=
 ⟨.val v,trivial,.inl ⟨hw,fun w hc=>by rw[h w hc];exact⟨rfl,rfl⟩⟩,hn⟩
theorem JI (f:FuncId) (args:Array Value) (v:Value) (hw:Region.wanted o (yielded ops a.tmps)=true) (h:∀w,C w->(execOp a.eval o).run P w=.ok (.enter f args) w)
  (hc:∀w,C w->Calls P f args w fun e w'=>e=.returned v/\Below w.heap.size w w')
  (hn:Yn P ops md tch C Q rest (i+1) (a.put o.dst v) F):Yn P ops md tch C Q (o::rest) i a F:=
 ⟨.val v,trivial,.inl ⟨hw,fun w hC=>by rw[h w hC];exact⟨rfl,hc w hC⟩⟩,hn⟩
theorem PfV {a':Act} {j:Nat} (v:Value) (hw:Region.wanted o (yielded ops a.tmps)=true) (h:∀w,C w->(execOp a.eval o).run P w=.ok (.value v) w) (hn:Yn P ops md tch C Q rest j a' F) (ha:a.put o.dst v=a':=by simp only[Act.put,StT,StZ,StS,Nat.reduceAdd];rfl) (hj:i+1=j:=by simp only[Nat.reduceAdd];rfl):Yn P ops md tch C Q (o::rest) i a F:=by cases hj;cases ha;exact GY v hw h hn
theorem PfC {a':Act} {j:Nat} (f:FuncId) (args:Array Value) (v:Value) (hw:Region.wanted o (yielded ops a.tmps)=true) (h:∀w,C w->(execOp a.eval o).run P w=.ok (.enter f args) w) (hc:∀w,C w->Calls P f args w fun e w'=>e=.returned v/\Below w.heap.size w w') (hn:Yn P ops md tch C Q rest j a' F) (ha:a.put o.dst v=a':=by simp only[Act.put,StT,StZ,StS,Nat.reduceAdd];rfl) (hj:i+1=j:=by simp only[Nat.reduceAdd];rfl):Yn P ops md tch C Q (o::rest) i a F:=by cases hj;cases ha;exact JI f args v hw h hc hn
theorem Z9 (b:Nat) (cs:Array Value) (t:TypeId) (v:Value) (hp:F b=some (.cells cs t (0,0))) (ht:i∈tch b) (hw:Region.wanted o (yielded ops a.tmps)=true)
  (h:∀w,C w->(∀m,w.cell? ⟨b,m,none⟩=cs[m]?)->(execOp a.eval o).run P w=.ok (.value v) w)
  (hn:Yn P ops md tch C Q rest (i+1) (a.put o.dst v) F):Yn P ops md tch C Q (o::rest) i a F:=
 ⟨.get b _ v,hp,⟨ht,hw,fun w hc hb=>h w hc (fun m=>Zk hb m)⟩,hn⟩
theorem XE (b j:Nat) (cs:Array Value) (x:Value) (t:TypeId) (hp:F b=some (.cells cs t (0,0))) (ht:i∈tch b)
  (hwt:∀j oj,j∈tch b->j≠i->ops[j]?=some oj->Xy md o j∨Xy md oj i) (hw:Region.wanted o (yielded ops a.tmps)=true)
  (h:∀w,C w->(∀m,w.cell? ⟨b,m,none⟩=cs[m]?)->(∀m,w.frozen? ⟨b,m,none⟩=false)->(execOp a.eval o).run P w=.ok .skip (w.setCell ⟨b,j,none⟩ x))
  (hn:Yn P ops md tch C Q rest (i+1) (a.put o.dst undef) (fun k=>if k=b then some (.cells (cs.setIfInBounds j x) t (0,0)) else F k)):Yn P ops md tch C Q (o::rest) i a F:=
 ⟨.put b (.cells cs t (0,0)) (.cells (cs.setIfInBounds j x) t (0,0)),hp,⟨⟨ht,hwt⟩,hw,fun w hc hb=>
  ⟨_,h w hc (fun m=>Zk hb m) (fun m=>Zt hb m),IW w b j cs x t hb⟩⟩,hn⟩
theorem YB {w:World} {R:Exit->Act->World->Prop} {X:Nat->Prop} (h:∀w',WV X w F w'->R .normal a w'):Yn P ops md tch C (fun a' F'=>∀w',WV X w F' w'->R .normal a' w') [] i a F:=h
end
def ME (md:Region.Mode) (o:Oper) (i:Nat):Bool:=o.after.any fun e=>Region.binds md e&&e.on==i
theorem Q3 {md:Region.Mode} {o:Oper} {i:Nat} (h:ME md o i=true):Xy md o i:=by
 unfold ME at h;obtain⟨k,hk,hb⟩:=Array.any_eq_true.1 h;simp only[Bool.and_eq_true,beq_iff_eq] at hb;exact⟨o.after[k],Array.getElem_mem hk,hb.1,hb.2⟩
def ZbB (md:Region.Mode) (ops:Array Oper) (o:Oper) (i:Nat) (l:List Nat):Bool:=l.all fun j=>j==i||(match ops[j]? with|none=>true|some oj=>ME md o j||ME md oj i)
theorem ZC {md:Region.Mode} {ops:Array Oper} {o:Oper} {i:Nat} {l:List Nat} (h:ZbB md ops o i l=true):∀j oj,j∈l->j≠i->ops[j]?=some oj->Xy md o j∨Xy md oj i:=fun j oj hj hn ho=>by
 have:=List.all_eq_true.1 h j hj
 rw[ho] at this;simp only[Bool.or_eq_true,beq_iff_eq] at this;rcases this with e|e|e
 ·exact absurd e hn
 ·exact .inl (Q3 e)
 ·exact .inr (Q3 e)
theorem Zz.trans {X:Nat->Prop} {w w1 w2:World} (h:Zz X w w1) (h2:Zz X w1 w2):Zz X w w2:=
 ⟨h2.os.trans h.os,h2.tape.trans h.tape,h2.output.trans h.output,Nt h.size h2.size,fun k hk hx=>(h2.block k (Nat.lt_of_lt_of_le hk h.size) hx).trans (h.block k hk hx)⟩
theorem Zz.of_below {X:Nat->Prop} {w w':World} (h:Below w.heap.size w w'):Zz X w w':=⟨h.os,h.tape,h.output,h.size,fun k hk _=>h.block k hk⟩
theorem Zz.refl (X:Nat->Prop) (w:World):Zz X w w:=⟨rfl,rfl,rfl,Nl _,fun _ _ _=>rfl⟩
theorem ZM {X:Nat->Prop} {g:Nat} (hg:X g):∀(vs:List Value) (o:Nat) (w:World),Zz X w (w.setCells g o vs)
 | [],_,w=>Zz.refl X w
 | v::r,o,w=>by
  have h1:Zz X w (w.setCell ⟨g,o,none⟩ v):=⟨rfl,rfl,rfl,by simp,fun k _ hx=>Below.heap_setCell w ⟨g,o,none⟩ v k (fun e=>hx (by rw[show k=g from e];exact hg))⟩
  exact h1.trans (ZM hg r (o+1) _)
theorem Dc {B:Nat} {a w:World} (h:Below B a w):Below B a w.drew:=⟨h.os,h.tape,h.output,h.size,h.block⟩
theorem ZJ (w:World) (o:Obj):(w.alloc o).heap[w.heap.size]?=some o:=by simp[World.alloc,-World.alloc_eq]
def Yp (cs:Array Value) (o:Nat):List Value->Array Value
 | []=>cs
 | v::r=>Yp (cs.setIfInBounds o v) (o+1) r
theorem OH:∀(vs:List Value) (cs:Array Value) (o:Nat),(Yp cs o vs).size=cs.size
 | [],_,_=>rfl
 | v::r,cs,o=>by unfold Yp;rw[OH r];simp
theorem Xw.refl {w:World} {b:Nat} {ob:Obj} (h:w.heap[b]?=some ob):Xw w w b ob:=⟨rfl,rfl,rfl,rfl,h,fun _ _=>rfl⟩
theorem Xw.trans {w w1 w2:World} {b:Nat} {o1 o2:Obj} (h:Xw w w1 b o1) (k:Xw w1 w2 b o2):Xw w w2 b o2:=
 ⟨k.os.trans h.os,k.tape.trans h.tape,k.output.trans h.output,k.size.trans h.size,k.new,fun j hj=>(k.old j hj).trans (h.old j hj)⟩
theorem VO (b:Nat) (t:TypeId):∀(vs:List Value) (o:Nat) (cs:Array Value) (w:World),w.heap[b]?=some (.cells cs t (0,0))->Xw w (w.setCells b o vs) b (.cells (Yp cs o vs) t (0,0))
 | [],_,_,_,h=>Xw.refl h
 | v::r,o,cs,w,h=>by
  have h1:=IW w b o cs v t h;exact h1.trans (VO b t r (o+1) _ _ h1.new)
section
variable {P:Program} {ops:Array Oper} {md:Region.Mode} {tch:Nat->List Nat} {C:World->Prop} {Q:Act->Fx->Prop} {o:Oper} {rest:List Oper} {i:Nat} {a:Act} {F:Fx}
theorem Z6 (b j:Nat) (cs:Array Value) (vs:List Value) (t:TypeId) (hp:F b=some (.cells cs t (0,0))) (ht:i∈tch b)
  (hwt:∀j oj,j∈tch b->j≠i->ops[j]?=some oj->Xy md o j∨Xy md oj i) (hw:Region.wanted o (yielded ops a.tmps)=true)
  (h:∀w,C w->(∀m,w.cell? ⟨b,m,none⟩=cs[m]?)->(∀m,w.frozen? ⟨b,m,none⟩=false)->(execOp a.eval o).run P w=.ok .skip (w.setCells b j vs))
  (hn:Yn P ops md tch C Q rest (i+1) (a.put o.dst undef) (fun k=>if k=b then some (.cells (Yp cs j vs) t (0,0)) else F k)):Yn P ops md tch C Q (o::rest) i a F:=
 ⟨.put b (.cells cs t (0,0)) (.cells (Yp cs j vs) t (0,0)),hp,⟨⟨ht,hwt⟩,hw,fun w hc hb=>
  ⟨_,h w hc (fun m=>Zk hb m) (fun m=>Zt hb m),VO b t vs j cs w hb⟩⟩,hn⟩
end
theorem Zo {P:Program} {e:Operand->Value} {o:Oper} {w:World} (ty:TypeId) (x:Operand) (ho:o.op=.load ty x) (b k:Nat) (hx:e x=.pointer (some ⟨b,k,none⟩)) (cs:List Value) (d:TypeDesc) (hc:w.rangeAt b k cs)
  (hu:P.underlying ty=some d) (hd:d.isRow=true) (hi:(P.info? ty).map (·.size)=some cs.length):(execOp e o).run P w=.ok (.value (.agg cs.toArray)) w:=by
 unfold execOp;simp only[ho,hx,Instr.loadAt,Instr.sureAddr,Sem.run_bind,Sem.run_pure,Result.andThen_ok,run_loadVar_mid w b k ty cs d hc hu hd hi]
theorem ZB {P:Program} {e:Operand->Value} {o:Oper} {w:World} (ty:TypeId) (x y:Operand) (ho:o.op=.store ty x y) (b k:Nat) (cells:Array Value) (hx:e x=.pointer (some ⟨b,k,none⟩)) (hy:e y=.agg cells)
  (ht:w.there b k cells.size) (hi:(P.info? ty).map (·.size)=some cells.size) (h1:cells.all (·.oneCell')=true):(execOp e o).run P w=.ok .skip (w.setCells b k cells.toList):=by
 unfold execOp;simp only[ho,hx,hy,Instr.storeAt,Instr.sureAddr,Sem.run_bind,Sem.run_pure,Result.andThen_ok,run_storeVar_mid w b k ty cells ht hi h1]
end Go.Proofs.YtpieeldbamklkaaGreatDoor
namespace Go.Proofs
open Go.Shelf
def Tryz.cloneLt_ren:Go.Shelf.Ren:=⟨fun|41=>58|n=>n,fun|22=>44|23=>130|4=>4|n=>n,fun|n=>n⟩
theorem Tryz.cloneLt:Go.Proofs.SlLaysE0.n41 prog Tryz.cloneLt_ren:={
 mixed:=by kernel_rfl
 f41:=⟨Tryz.f58.name,by decide,func58.trans (congrArg some (by kernel_rfl))⟩
 t4:=underlying4
 a4:=isAgg4
 z4:=sizeOf4
 v4:=zeroValue4
 t22:=underlying44
 a22:=isAgg44
 z22:=sizeOf44
 v22:=zeroValue44 }
end Go.Proofs
namespace Go.Proofs.YtpieeldbamklkaaGreatDoor
open Go.RowKit Num
theorem Xz (x:Lot) (xs:List Lot):Yg (x::xs)=Zg x.id::Zg x.ins::Zi x.acq::Zi x.opn::Zg x.q::Zg x.cost::Zg x.used::Yg xs:=rfl
def lcs (x:Lot):List Value:=[Zg x.id,Zg x.ins,Zi x.acq,Zi x.opn,Zg x.q,Zg x.cost,Zg x.used]
theorem AU (x:Lot):(lcs x).length=7:=rfl
theorem VC:∀{xs:List Lot} {i:Nat} {x:Lot},xs[i]?=some x->∀j,j<7->(Yg xs)[i*7+j]?=(lcs x)[j]?
 | [],i,x,h=>by simp at h
 | y::xs,0,x,h=>by
  have:y=x:=by simpa using h
  subst this;intro j hj;rw[Xz,Nat.zero_mul,Nat.zero_add]
  match j,hj with
  | 0,_|1,_|2,_|3,_|4,_|5,_|6,_=>rfl
 | y::xs,i+1,x,h=>by
  intro j hj;have h1:=VC (xs:=xs) (i:=i) (x:=x) (by simpa using h) j hj
  rw[Xz,show (i+1)*7+j=i*7+j+1+1+1+1+1+1+1 by omega]
  simpa using h1
theorem Qx:∀{xs:List Lot} {j:Nat} {u:Value},(Yg xs)[j]?=some u->∃x,xs[j / 7]?=some x/\(lcs x)[j % 7]?=some u
 | [],j,u,h=>by simp[Yg] at h
 | y::xs,j,u,h=>by
  by_cases hj:j<7
  ·refine⟨y,by rw[Nat.div_eq_of_lt hj];rfl,?_⟩
   rw[Nat.mod_eq_of_lt hj,<-h]
   have:=VC (xs:=y::xs) (i:=0) (x:=y) rfl j hj
   rw[Nat.zero_mul,Nat.zero_add] at this;exact this.symm
  ·obtain⟨k,rfl⟩:∃k,j=k+7:=⟨j-7,by omega⟩
   rw[Xz] at h;obtain⟨x,h1,h2⟩:=Qx (xs:=xs) (j:=k) (u:=u) (by simpa using h)
   exact⟨x,by rw[show (k+7) / 7=k / 7+1 by omega];simpa using h1,by rw[show (k+7) % 7=k % 7 by omega];exact h2⟩
theorem Qy:∀{xs:List Lot} {i:Nat} (y:Lot),i<xs.length->(((((((Yg xs).set (i*7) (Zg y.id)).set (i*7+1) (Zg y.ins)).set (i*7+2) (Zi y.acq)).set (i*7+3) (Zi y.opn)).set (i*7+4) (Zg y.q)).set (i*7+5) (Zg y.cost)).set (i*7+6) (Zg y.used)=Yg (xs.set i y)
 | [],i,y,h=>by simp at h
 | x::xs,0,y,_=>rfl
 | x::xs,i+1,y,h=>by
  have h1:=Qy (xs:=xs) (i:=i) y (by simpa using h)
  rw[Xz,show (i+1)*7=i*7+1+1+1+1+1+1+1 by omega]
  simp only[Nat.add_assoc,Nat.reduceAdd] at h1 ⊢
  simp only[show i*7+7=(i*7)+1+1+1+1+1+1+1 by omega,show i*7+8=(i*7+1)+1+1+1+1+1+1+1 by omega,show i*7+9=(i*7+2)+1+1+1+1+1+1+1 by omega,show i*7+10=(i*7+3)+1+1+1+1+1+1+1 by omega,
   show i*7+11=(i*7+4)+1+1+1+1+1+1+1 by omega,show i*7+12=(i*7+5)+1+1+1+1+1+1+1 by omega,show i*7+13=(i*7+6)+1+1+1+1+1+1+1 by omega,List.set_cons_succ]
  rw[h1];rfl
def YK (w:World) (g:Nat) (qs:List Lot):Prop:=∃cur:Array Value,w.heap[g]?=some (.cells cur 130 (0,0))/\cur.toList.take (qs.length*7)=Yg qs/\qs.length*7<=cur.size
theorem Yl {w:World} {g o:Nat} {cur:Array Value} {t:TypeId} (v:Value) (h:w.heap[g]?=some (.cells cur t (0,0))):(w.setCell ⟨g,o,none⟩ v).heap[g]?=some (.cells (cur.setIfInBounds o v) t (0,0)):=by
 obtain⟨hlt,hk⟩:=Ag.1 h;show (w.heap.modify g _)[g]?=_;rw[Array.getElem?_eq_getElem (by rw[Array.size_modify];exact hlt),Array.getElem_modify_self,hk]
 rfl
section
variable {w w':World} {g b i:Nat} {qs:List Lot}
theorem YK.lt (h:YK w g qs):g<w.heap.size:=by obtain⟨cur,h,-⟩:=h;exact (Ag.1 h).1
theorem YK.below (h:YK w g qs) (hb:Below w.heap.size w w'):YK w' g qs:=by
 have hl:=h.lt;obtain⟨cur,h,h2⟩:=h;exact⟨cur,(hb.block g hl).trans h,h2⟩
theorem YK.keepX {X:Nat->Prop} (h:YK w g qs) (hb:Zz X w w') (hx:¬X g):YK w' g qs:=by
 have hl:=h.lt;obtain⟨cur,h,h2⟩:=h;exact⟨cur,(hb.block g hl hx).trans h,h2⟩
theorem YK.range {x:Lot} (h:YK w g qs) (hx:qs[i]?=some x):w.rangeAt g (i*7) (lcs x):=fun j v hv=>by
 obtain⟨cur,hh,ht,hs⟩:=h;have hi:=(Lg.1 hx).1;have hj:j<7:=(Lg.1 hv).1;have h1:=VC hx j hj;rw[Zk hh,<-hv,<-h1,<-ht,List.getElem?_take,if_pos (by omega),Array.getElem?_toList]
theorem YK.there (h:YK w g qs) (hi:i<qs.length):w.there g (i*7) 7:=fun j hj=>by
 obtain⟨x,hx⟩:∃x,qs[i]?=some x:=⟨_,List.getElem?_eq_getElem hi⟩
 have h1:=h.range hx j _ (List.getElem?_eq_getElem (by rw[AU];exact hj))
 obtain⟨cur,hh,-⟩:=h;exact⟨by rw[h1];rfl,Zt hh _⟩
theorem YK.cells {x:Lot} (h:YK w g qs) (hx:qs[i]?=some x):OD w g (i*7) x:=
 ⟨h.range hx 0 _ rfl,h.range hx 1 _ rfl,h.range hx 2 _ rfl,h.range hx 3 _ rfl,h.range hx 4 _ rfl,h.range hx 5 _ rfl,h.range hx 6 _ rfl⟩
theorem YK.lotAt (h:YK w g qs):Y7 w (some ⟨g,0,none⟩) qs:=fun i t ht=>⟨g,0,rfl,h.lt,by rw[Nat.zero_add];exact h.cells ht⟩
theorem YK.free (h:YK w g qs) (j:Nat):w.frozen? ⟨g,j,none⟩=false:=by
 obtain⟨cur,hh,-⟩:=h;exact Zt hh j
theorem YK.set (h:YK w g qs) (y:Lot) (hi:i<qs.length):YK (w.setCells g (i*7) (lcs y)) g (qs.set i y):=by
 obtain⟨cur,hh,ht,hs⟩:=h;refine⟨_,Yl _ (Yl _ (Yl _ (Yl _ (Yl _ (Yl _ (Yl _ hh)))))),?_,by simpa using hs⟩
 rw[List.length_set];simp only[Array.toList_setIfInBounds,List.take_set,ht];exact Qy y hi
end
theorem OI {w:World} {base n c:Nat} {A:Option Addr} {qs:List Lot} (h:w.ownsRow base 130 7 (.slice A n c) n (Yg qs)) (hn:n=qs.length) (h0:0<n):∃g,A=some ⟨g,0,none⟩/\base<=g/\YK w g qs:=by
 rcases h.2 with ⟨hv,h1⟩|⟨g,cap,cur,hv,hb,hh,hcap,_,hsz,htk⟩
 ·omega
 ·injection hv with h1 _ h3
  subst h1 h3;refine⟨g,rfl,hb,cur,hh,by rw[<-hn];exact htk,by omega⟩
theorem GZ (A:Option Addr) (ps:List Lot) (n c:Nat) (w:World) (hn:ps.length=n) (h0:0<n) (hn2:n<=1000000) (h:Y7 w A ps) :
  Calls prog 58 #[.slice A n c] w fun e w'=>∃g cp,e=.returned (.slice (some ⟨g,0,none⟩) n cp)/\w.heap.size<=g/\YK w' g ps/\Below w.heap.size w w':=by
 obtain⟨x0,hx0⟩:∃x,ps[0]?=some x:=⟨_,List.getElem?_eq_getElem (by omega)⟩
 obtain⟨b,o,rfl,hbs,-⟩:=h 0 x0 hx0;obtain⟨i0,e0,e1,e2,e3⟩:=info_parts U0;refine (AnyE.slices_Clone Tryz.cloneLt i0 _ 7 96 e0 e1 e2 e3 rfl (by decide) sizeOf130 b o n c (Yg ps) w (by rw[Vs,hn]) (by unfold maxLen;omega) (by omega) (fun j u hu=>?_) (V3 ps)).mono ?_
 ·obtain⟨x,h1,h2⟩:=Qx hu;obtain⟨b',o',hA,-,hc⟩:=h (j / 7) x h1;cases hA;have hlt:j % 7<7:=Nat.mod_lt _ (by decide)
  have ej:o+j=o+j / 7*7+j % 7:=by omega
  rw[ej];generalize j % 7=m at *
  match m,hlt with
  | 0,_=>cases h2;exact hc.c0
  | 1,_=>cases h2;exact hc.c1
  | 2,_=>cases h2;exact hc.c2
  | 3,_=>cases h2;exact hc.c3
  | 4,_=>cases h2;exact hc.c4
  | 5,_=>cases h2;exact hc.c5
  | 6,_=>cases h2;exact hc.c6
 ·rintro e w' ⟨v,rfl,hown,-,hb⟩;have hown':w'.ownsRow w.heap.size 130 7 v n (Yg ps):=hown;obtain⟨B,cp,rfl⟩:∃A c,v=.slice A n c:=by
   rcases hown'.2 with ⟨hv,h1⟩|⟨g,cap,cur,hv,-⟩
   ·omega
   ·exact⟨_,_,hv⟩
  obtain⟨g,rfl,hg,hr⟩:=OI hown' hn.symm h0;exact⟨g,cp,rfl,hg,hr,hb⟩
theorem G0 {xs:List Lot} {i j:Nat} {x y:Lot} (hi:xs[i]?=some x) (hj:xs[j]?=some y):((xs.set i y).set j x).Perm xs:=by
 obtain⟨hi1,hi2⟩:=Lg.1 hi;obtain⟨hj1,hj2⟩:=Lg.1 hj;rw[List.perm_iff_count];intro a
 by_cases hij:i=j
 ·subst hij
  have:x=y:=by rw[hi] at hj;exact Option.some.inj hj
  subst this;rw[List.set_set];congr 1;rw[<-hi2];exact List.set_getElem_self hi1
 ·rw[List.count_set (by simpa using hj1),List.count_set hi1,List.getElem_set_ne hij,hi2,hj2]
  have h1:(if x==a then 1 else 0)<=xs.count a:=by
   split
   ·rename_i h;rw[beq_iff_eq] at h;subst h;exact List.count_pos_iff.2 (Lm hi)
   ·exact Nat.zero_le _
  have h2:(if y==a then 1 else 0)<=xs.count a:=by
   split
   ·rename_i h;rw[beq_iff_eq] at h;subst h;exact List.count_pos_iff.2 (Lm hj)
   ·exact Nat.zero_le _
  generalize xs.count a=c at *
  by_cases e1:(x==a)=true<;>by_cases e2:(y==a)=true<;>simp only[e1,e2,if_true,if_false,Bool.false_eq_true] at *<;>omega
open Go.Shelf
attribute [local go_sem] Oper.semAt_some
def ofL (ins:List UInt8) (xs:List Lot):List Lot:=xs.filter (fun x=>x.ins==ins)
theorem I0 {ins:List UInt8} {x:Lot} {r:List Lot} (h:x.ins=ins):ofL ins (x::r)=x::ofL ins r:=by unfold ofL;rw[List.filter_cons_of_pos (by simpa using h)]
theorem ZbC {ins:List UInt8} {x:Lot} {r:List Lot} (h:¬x.ins=ins):ofL ins (x::r)=ofL ins r:=by unfold ofL;rw[List.filter_cons_of_neg (by simpa using h)]
def Zcp (Kp:World->Prop) (gf:Nat) (lb:Array Value) (qs:List Lot):Prop:=
 ∀(m lw:Nat) (S:List Lot->World->Prop),(∀ys W,S ys W->Kp W)->(∀ys W W',S ys W->Below W.heap.size W W'->S ys W')->
  (∀ys y W,S ys W->qs[ys.length]?=some y->YieldAt Fence.wide (m-1) prog lw #[(Value.agg (Zn y))] W fun e W'=>e=.returned (.bool true)/\S (ys++[y]) W')->
  ∀W,S [] W->CallsIn Fence.wide m prog gf (#[.func (.yield lw) #[] #[]]++lb) W fun e W'=>(∃v,e=.returned v)/\S qs W'
theorem I1 (bl bi:Nat) (ins:List UInt8) (A:Option Addr) (xs:List Lot) (n c:Nat) (hn:xs.length=n) (hn3:n<=100000) :
  Zcp (fun W=>Y7 W A xs/\Blk W bl #[.slice A n c]/\Blk W bi #[Zg ins]) 141 #[.pointer (some ⟨bl,0,none⟩),.pointer (some ⟨bi,0,none⟩)] (ofL ins xs):=by
 intro m lw S hSB hSm hY W hS;have HB:=Lh hSB;have HM:=Lh hSm;have HY:=Lh hY;have HX:=Lh hS;have hn1:xs.length<=n:=by omega
 have hn2:n<=xs.length:=by omega
 have hbl':=(hSB _ _ hS).2.1;have q0:W.cell? ⟨bl,0,none⟩=some (.slice A n c):=hbl'.c 0;clear hSB hSm hY hS hn hbl';show CallsIn Fence.wide m prog 141 #[.func (.yield lw) #[] #[],.pointer (some ⟨bl,0,none⟩),.pointer (some ⟨bi,0,none⟩)] W _;refine callsIn_of_wp func141 rfl trivial ?_ rfl;simp only[ntmps141,List.size_toArray,List.length_cons,List.length_nil,Nat.reduceAdd,Nat.reduceSub,Array.replicate_succ,Array.replicate_zero,List.push_toArray,List.append_toArray,List.nil_append,List.cons_append]
 gi_wp2_with fail
 clear q0
 gi_loopw [5,8] (fun _ iv wr=>∃(k:Nat) (ys:List Lot),k<=n/\iv=Zi (k:Int)/\Hid (ys++ofL ins (xs.drop k)=ofL ins xs)/\Hid (S ys wr)) (fun _ iv _=>n-(intOf iv).toNat)
 case atStart=>exact⟨0,[],Nat.zero_le _,rfl,rfl,HX.out⟩
 case round=>
  clear HX;obtain⟨k,ys,hk,rfl,HQ,HX⟩:=hrel;obtain⟨hLt,-,hbi⟩:=HB.out _ _ HX.out
  by_cases hlk:k<n
  rotate_left
  ·have HE:Hid (S (ofL ins xs) wr):=by
    have h1:=HQ.out;rw[List.drop_of_length_le (by omega),show ofL ins []=[] from rfl,List.append_nil] at h1
    show S _ wr;rw[<-h1];exact HX.out
   have e1:decide (k<n)=false:=Df hlk;clear HQ HX hLt hbi
   gi_wp2
   go_end0
   exact⟨⟨_,rfl⟩,HE.out⟩
  have e1:decide (k<n)=true:=Dt hlk;obtain⟨x,hxk⟩:∃x,xs[k]?=some x:=⟨_,List.getElem?_eq_getElem (by omega)⟩
  obtain⟨b,o,rfl,hbs,hc0⟩:=hLt k x hxk;have HD:Hid (xs.drop k=x::xs.drop (k+1)):=by
   obtain⟨hk',rfl⟩:=Lg.1 hxk;exact List.drop_eq_getElem_cons hk'
  clear hxk;have p0:=hc0.c0;have p1:=hc0.c1;have p2:=hc0.c2;have p3:=hc0.c3;have p4:=hc0.c4;have p5:=hc0.c5;have p6:=hc0.c6;have hbA:=Zh wr (.cells (Zn x) 130);have x5:=Yq.new wr x 130;obtain⟨W1,hW1⟩:∃W1,W1=wr.alloc (.cells (Zn x) 130):=⟨_,rfl⟩
  rw[<-hW1] at hbA x5;have HX1:=Lh (HM.out _ _ _ HX.out hbA);have hbi':W1.cell? ⟨bi,0,none⟩=some (Zg ins):=(hbi.below hbA).c 0;have q1:=x5.c1;rw[hW1] at hbi' q1
  by_cases hi:x.ins=ins
  ·have e3:(x.ins==ins)=true:=by rw[beq_iff_eq];exact hi
   have hq:(ofL ins xs)[ys.length]?=some x:=by
    rw[<-HQ.out,HD.out,I0 hi];simp
   have HQ2:Hid ((ys++[x])++ofL ins (xs.drop (k+1))=ofL ins xs):=by
    show _=_;rw[List.append_assoc,List.singleton_append,<-HQ.out,HD.out,I0 hi]
   have HYY:=Lh (HY.out ys x W1 HX1.out hq);have q0:=x5.c0;have q2:=x5.c2;have q3:=x5.c3;have q4:=x5.c4;have q5:=x5.c5;have q6:=x5.c6;rw[hW1] at q0 q2 q3 q4 q5 q6;clear hi hq HX HX1 HQ HD hLt hbi hbA x5 hc0
   gi_wp2_with fail
   rw[<-hW1];obtain⟨fn,tmps,assign,body,hyr,hR⟩:=HYY.out;rw[hyr];refine⟨fun h=>(by cases h),hR.mono ?_⟩
   rintro e W3 ⟨rfl,hS3⟩;have HX4:=Lh hS3;clear hS3 hR hyr hW1
   gi_wp2
   go_roundw
   case rel=>exact⟨k+1,ys++[x],by omega,by go_num,HQ2.out,HX4.out⟩
   case measure=>simp[intOf];omega
  ·have e3:(x.ins==ins)=false:=by rw[Bn];exact hi
   have HQ2:Hid (ys++ofL ins (xs.drop (k+1))=ofL ins xs):=by show _=_;rw[<-HQ.out,HD.out,ZbC hi]
   rw[hW1] at HX1;clear hi HX HQ HD hLt hbi hbA x5 hc0 hW1
   gi_wp2_with fail
   refine⟨fun f h=>(by cases h),?_⟩
   gi_wp2
   go_roundw
   case rel=>exact⟨k+1,ys,by omega,by go_num,HQ2.out,HX1.out⟩
   case measure=>simp[intOf];omega
theorem ZbD (bl bi:Nat) (ins:List UInt8) (A:Option Addr) (xs:List Lot) (n c:Nat) (w:World) (hn:xs.length=n) (hn3:n<=100000) (h:Y7 w A xs) (hbl:Blk w bl #[.slice A n c]) (hbi:Blk w bi #[Zg ins]) :
  E8 w 141 #[.pointer (some ⟨bl,0,none⟩),.pointer (some ⟨bi,0,none⟩)] (ofL ins xs):=fun m lw S h1 h2 h3 W h4=>
 I1 bl bi ins A xs n c hn hn3 m lw S (fun ys W hS=>⟨h.below (h1 ys W hS),hbl.below (h1 ys W hS),hbi.below (h1 ys W hS)⟩) h2 h3 W h4
theorem Dd (A:Option Addr) (n c:Nat) (ins:List UInt8) (w:World) :
  Calls prog 65 #[.slice A n c,Zg ins] w fun e w'=>e=.returned (.func (.func 141) #[] #[.pointer (some ⟨w.heap.size,0,none⟩),.pointer (some ⟨w.heap.size+1,0,none⟩)])/\w'=(w.alloc (.cells #[.slice A n c] 44)).alloc (.cells #[Zg ins] 9):=by
 go_enter func65,ntmps65;go_wp2_with fail;go_ret;exact⟨rfl,rfl⟩
theorem LA (args:Array Value) (w:World):(callFunc 141 args).run prog w=.ok (.enter 141 args) w:=by kernel_rfl
theorem lOf {w:World} {A:Option Addr} {xs:List Lot} {n:Nat} (c:Nat) (ins:List UInt8) (hL:Yk w A xs n) :
  Calls prog 123 #[.slice A n c,Zg ins] w fun e w'=>∃v,e=.returned v/\w'.ownsRow w.heap.size 130 7 v (ofL ins xs).length (Yg (ofL ins xs))/\Below w.heap.size w w':=by
 have hl:(ofL ins xs).length<=100000:=Nt (List.length_filter_le _ _) (by rw[hL.len];exact hL.big)
 have hb1:=Zh w (.cells #[.slice A n c] 44);have hb2:=Zh (w.alloc (.cells #[.slice A n c] 44)) (.cells #[Zg ins] 9);have x1:=(Blk.new w #[.slice A n c] 44).below hb2;have x2:=Blk.new (w.alloc (.cells #[.slice A n c] 44)) #[Zg ins] 9;rw[World.size_alloc] at x2;have hb:=bto hb1 hb2;have hI:=ZbD w.heap.size (w.heap.size+1) ins A xs n c _ hL.len hL.big (hL.mem.below hb) x1 x2;have C1:=Lh (Dd A n c ins w);clear hb1 hb2 x1 x2;have C2:=Lh (E9 141 _ (ofL ins xs) _ LA hI hl);obtain⟨W,hW⟩:∃W,W=(w.alloc (.cells #[.slice A n c] 44)).alloc (.cells #[Zg ins] 9):=⟨_,rfl⟩
 rw[<-hW] at C1 C2 hb;have hsz:w.heap.size<=W.heap.size:=hb.size;clear hW hI hl;go_enter func123,ntmps123;go_wp2_with fail
 refine C1.out.mono ?_
 rintro e w1 ⟨rfl,rfl⟩;go_wp2_with fail;refine C2.out.mono ?_;rintro e w2 ⟨v,rfl,h1,h2⟩;go_wp2;go_ret;exact⟨_,rfl,GT h1 hsz,bto hb h2⟩
def Yi (xs:List Lot):Int:=(xs.map (fun x=>val x.q)).sum
def Yx (xs:List Lot):Int:=(xs.map (fun x=>val x.cost)).sum
theorem JJ (xs:List Lot) (x:Lot):Yi (xs++[x])=Yi xs+val x.q:=by simp[Yi]
theorem JK (xs:List Lot) (x:Lot):Yx (xs++[x])=Yx xs+val x.cost:=by simp[Yx]
theorem De (f:Lot->Int) (K:Nat):∀(xs:List Lot),(∀x∈xs,(f x).natAbs<=K)->((xs.map f).sum).natAbs<=xs.length*K
 | [],_=>by simp
 | x::r,h=>by
  have h1:=De f K r (fun y hy=>h y (List.mem_cons_of_mem _ hy))
  have h2:=h x List.mem_cons_self;have h3:=Int.natAbs_add_le (f x) ((r.map f).sum);rw[List.map_cons,List.sum_cons,List.length_cons,Nat.add_mul,Nat.one_mul];omega
theorem YR (e:Nat) (f:Lot->List UInt8) (xs:List Lot) (hx:∀x∈xs,(f x).length<=e) (hn:xs.length<=100000):(canon ((xs.map (fun x=>val (f x))).sum)).length<=e+8:=by
 have h1:=De (fun x=>val (f x)) (10 ^ e) xs (fun x h=>Nat.le_of_lt (Zw (hx x h)))
 refine Nt (Zu _ (e+6) ?_) (by omega)
 have h2:xs.length*10 ^ e<=100000*10 ^ e:=Nat.mul_le_mul_right _ hn;have h3:(100000:Nat)*10 ^ e<10 ^ (e+6):=by
  rw[Nat.pow_add,Nat.mul_comm];exact Nat.mul_lt_mul_of_pos_left (by decide) (Nat.pow_pos (by decide))
 omega
theorem WB (f:Lot->List UInt8) (xs:List Lot) (hx:∀x∈xs,(f x).length<=1000) (hn:xs.length<=100000):(canon ((xs.map (fun x=>val (f x))).sum)).length<=100000:=
 Nt (YR 1000 f xs hx hn) (by decide)
structure XT (w:World) (v1 v2:Value) (R:Loop) (d l:Nat) (ys:List Lot) (W:World):Prop where
 b1:Blk W (w.heap.size+1+1) #[v1]
 b2:Blk W (w.heap.size+1+1+1) #[v2]
 below:Below w.heap.size w W
 loop:W.heap[l]?=some (.loop R)
 dfr:W.heap[d]?=some (.deferred (some []))
 qb:Blk W w.heap.size #[Zg (canon (Yi ys))]
 cb:Blk W (w.heap.size+1) #[Zg (canon (Yx ys))]
 sm:ys.length<=100000/\∀y∈ys,Vh y
section
variable {w W W':World} {v1 v2:Value} {R:Loop} {d l:Nat} {ys:List Lot}
theorem XT.mono (h:XT w v1 v2 R d l ys W) (hb:Below W.heap.size W W'):XT w v1 v2 R d l ys W':=
 ⟨h.b1.below hb,h.b2.below hb,bto h.below hb,(hb.block _ (Ag.1 h.loop).1).trans h.loop,(hb.block _ (Ag.1 h.dfr).1).trans h.dfr,h.qb.below hb,h.cb.below hb,h.sm⟩
theorem XT.done {R1 R2:Loop} (hR:R2=R) (hl:l≠d/\w.heap.size+3<l) (h:XT w v1 v2 R1 d l ys W):XT w v1 v2 R d l ys (W.putObj l (.loop R2)):=by
 subst hR;exact⟨h.b1.putO (by omega),h.b2.putO (by omega),XD h.below (by omega),World.putObj_heap_same (Ag.1 h.loop).1,(World.putObj_heap_other (by omega)).trans h.dfr,h.qb.putO (by omega),h.cb.putO (by omega),h.sm⟩
theorem XT.step {X:Nat->Prop} (h:XT w v1 v2 R d l ys W) {y:Lot} (hy:Vh y) (hn:ys.length<100000) (hX:∀k,X k->k=w.heap.size∨k=w.heap.size+1) (hl:w.heap.size+1<l/\w.heap.size+1<d) (hb:Zz X W W')
  (h1:Blk W' w.heap.size #[Zg (canon (Yi ys+val y.q))]) (h2:Blk W' (w.heap.size+1) #[Zg (canon (Yx ys+val y.cost))]):XT w v1 v2 R d l (ys++[y]) W':=by
 refine⟨h.b1.keepX hb (fun hx=>by rcases hX _ hx with e|e<;>omega),h.b2.keepX hb (fun hx=>by rcases hX _ hx with e|e<;>omega),hb.lower h.below (fun k hk=>by rcases hX k hk with rfl|rfl<;>omega),(hb.block _ (Ag.1 h.loop).1 (fun hx=>by rcases hX _ hx with e|e<;>omega)).trans h.loop,(hb.block _ (Ag.1 h.dfr).1 (fun hx=>by rcases hX _ hx with e|e<;>omega)).trans h.dfr,?_,?_,⟨by simp;omega,fun z hz=>?_⟩⟩
 ·rw[JJ];exact h1
 ·rw[JK];exact h2
 ·rcases List.mem_append.1 hz with hz|hz
  ·exact h.sm.2 z hz
  ·rw[List.mem_singleton.1 hz];exact hy
end
theorem Qz {w:World} {A:Option Addr} {xs:List Lot} {n:Nat} (c:Nat) (ins:List UInt8) (hG:GE w) (hL:Yk w A xs n) :
  Calls prog 21 #[.slice A n c,Zg ins] w fun e w'=>e=.returned (.tuple #[Zg (canon (Yi (ofL ins xs))),Zg (canon (Yx (ofL ins xs)))])/\Below w.heap.size w w':=by
 have hsm:∀y∈ofL ins xs,Vh y:=fun y hy=>hL.sm y (List.mem_filter.1 hy).1
 have hln:(ofL ins xs).length<=100000:=Nt (List.length_filter_le _ _) (by rw[hL.len];exact hL.big)
 have hb1:=Zh w (.cells #[Zj] 32);have hb2:=Zh (w.alloc (.cells #[Zj] 32)) (.cells #[Zj] 32);have y6:=(Blk.new w #[Zj] 32).below hb2;have y7:=Blk.new (w.alloc (.cells #[Zj] 32)) #[Zj] 32;rw[World.size_alloc] at y7;have hb:=bto hb1 hb2;obtain⟨wa,hwa⟩:∃wa,wa=(w.alloc (.cells #[Zj] 32)).alloc (.cells #[Zj] 32):=⟨_,rfl⟩
 have hsa:wa.heap.size=w.heap.size+1+1:=by rw[hwa,World.size_alloc,World.size_alloc]
 have HWa:=Lh hwa;rw[<-hwa] at y6 y7 hb;have hb3:=Zh wa (.cells #[.slice A n c] 44);have hb4:=Zh (wa.alloc (.cells #[.slice A n c] 44)) (.cells #[Zg ins] 9);have x1:=(Blk.new wa #[.slice A n c] 44).below hb4;have x2:=Blk.new (wa.alloc (.cells #[.slice A n c] 44)) #[Zg ins] 9;rw[World.size_alloc] at x2;have hb34:=bto hb3 hb4;replace y6:=y6.below hb34;replace y7:=y7.below hb34;have hI:=I1 (w.heap.size+1+1) (w.heap.size+1+1+1) ins A xs n c hL.len hL.big;have hLm:=Lh hL.mem;have C1:=Lh (Dd A n c ins wa);replace hb:=bto hb hb34;obtain⟨W0,hW0⟩:∃W0,W0=(wa.alloc (.cells #[.slice A n c] 44)).alloc (.cells #[Zg ins] 9):=⟨_,rfl⟩
 have hs0:W0.heap.size=wa.heap.size+1+1:=by rw[hW0,World.size_alloc,World.size_alloc]
 rw[<-hW0] at C1 y6 y7 hb x1 x2;rw[hsa] at x1 x2;have HI:=Lh hI;have HSM:=Lh hsm;clear hW0 hb1 hb2 hb3 hb4 hb34 hI hwa hsm hL;refine (callsIn_wide (n:=5)).1 ?_;refine callsIn_of_wp_marks func21 rfl trivial ?_ rfl;simp only[ntmps21,List.size_toArray,List.length_cons,List.length_nil,Nat.reduceAdd,Nat.reduceSub,Array.replicate_succ,Array.replicate_zero,List.push_toArray,List.append_toArray,List.nil_append,List.cons_append]
 gi_wp2_with fail
 refine⟨trivial,?_⟩;rw[<-HWa.out]
 (refine (callsIn_wide.2 C1.out).mono ?_)
 rintro e W0 ⟨rfl,rfl⟩
 gi_wp2_with fail
 refine VA (gf:=141) (lb:=#[.pointer (some ⟨w.heap.size+1+1,0,none⟩),.pointer (some ⟨w.heap.size+1+1+1,0,none⟩)]) rfl LA ?_;intro fn R hR;obtain⟨W1,hW1⟩:∃W1,W1=(W0.alloc (.deferred (some []))).alloc (.loop R):=⟨_,rfl⟩
 have hbB:Below W0.heap.size W0 W1:=by rw[hW1];exact bto (Zh _ _) (Zh _ _)
 have hD:W1.heap[W0.heap.size]?=some (.deferred (some [])):=by rw[hW1];exact (Below.heap_alloc _ _ _ (by simp)).trans (World.alloc_heap_new _ _)
 have hL:W1.heap[W0.heap.size+1]?=some (.loop R):=by
  rw[hW1]
  have:=World.alloc_heap_new (W0.alloc (.deferred (some []))) (.loop R)
  rwa [World.size_alloc] at this
 rw[<-hW1];obtain⟨l,hl⟩:∃l,l=W0.heap.size+1:=⟨_,rfl⟩
 obtain⟨d,hd⟩:∃d,d=W0.heap.size:=⟨_,rfl⟩
 rw[<-hl] at hL ⊢;rw[<-hd] at hD hR ⊢;have hS0:XT w (.slice A n c) (Zg ins) R d l [] W1:=⟨x1.below hbB,x2.below hbB,bto hb hbB,hL,hD,y6.below hbB,y7.below hbB,by simp,fun q hq=>by cases hq⟩
 have n1:l≠d/\w.heap.size+3<l:=by omega
 have n2:w.heap.size+1<l/\w.heap.size+1<d:=by omega
 have n3:w.heap.size<=d:=by omega
 have n4:w.heap.size≠d/\w.heap.size+1≠d:=by omega
 clear hW1 hbB hD hL y6 y7 x1 x2 hl hd hs0 hb C1 HWa hsa;have hY:∀ys y W,XT w (.slice A n c) (Zg ins) R d l ys W->(ofL ins xs)[ys.length]?=some y->YieldAt Fence.wide (5-1-1) prog l #[(Value.agg (Zn y))] W fun e W'=>e=.returned (.bool true)/\XT w (.slice A n c) (Zg ins) R d l (ys++[y]) W':=by
  intro ys y W hS hyb;have hlen:=(Lg.1 hyb).1;have hys:=HSM.out y (Lm hyb);have hy:=run_yield (P:=prog) (args:=#[(Value.agg (Zn y))]) hS.loop (by rw[hR];rfl)
  refine⟨R.fn,_,R.assign,R.body,hy,roundIn_of_wpIn trivial ?_⟩;have hlW:=(Ag.1 hS.loop).1;have hSa:=hS.mono (Zh W (.cells (Zn y) 130));have hbr:=run_beginRound (P:=prog) hSa.loop (by rw[hR])
  have hS1:XT w (.slice A n c) (Zg ins) { R with state:=.busy } d l ys ((W.alloc (.cells (Zn y) 130)).putObj l (.loop { R with state:=.busy })):=XT.done rfl n1 hSa
  have x4:Blk ((W.alloc (.cells (Zn y) 130)).putObj l (.loop { R with state:=.busy })) W.heap.size (Zn y):=(Blk.new W _ 130).putO (by omega)
  obtain⟨Wb,hWb⟩:∃Wb,Wb=(W.alloc (.cells (Zn y) 130)).putObj l (.loop { R with state:=.busy }):=⟨_,rfl⟩
  rw[<-hWb] at hbr hS1 x4;have hRe:({ { R with state:=.busy } with state:=.ready,pending:=none }:Loop)=R:=by rw[hR]
  obtain⟨R1,hR1⟩:∃R1,R1={ R with state:=.busy }:=⟨_,rfl⟩
  rw[<-hR1] at hS1 hRe;have hl1:(canon (Yi ys)).length<=100000:=WB (·.q) ys (fun z hz=>(hS1.sm.2 z hz).q) hS1.sm.1
  have hl2:(canon (Yx ys)).length<=100000:=WB (·.cost) ys (fun z hz=>(hS1.sm.2 z hz).cost) hS1.sm.1
  have hl3:=hys.q;have hl4:=hys.cost;have HC1:=Lh (Ret.e (XX (l:=canon (Yi ys)) (l':=y.q) (by omega) (by omega) (z:=Yi ys+val y.q) (by rw[Zm])))
  have HC2:=Lh (Ret.e (XX (l:=canon (Yx ys)) (l':=y.cost) (by omega) (by omega) (z:=Yx ys+val y.cost) (by rw[Zm])))
  have HST:Hid (∀W' (X:Nat->Prop),(∀k,X k->k=w.heap.size∨k=w.heap.size+1)->Zz X Wb W'->Blk W' w.heap.size #[Zg (canon (Yi ys+val y.q))]->Blk W' (w.heap.size+1) #[Zg (canon (Yx ys+val y.cost))]->XT w (.slice A n c) (Zg ins) R1 d l (ys++[y]) W'):=fun W' X hX hb h1 h2=>hS1.step hys (by omega) hX n2 hb h1 h2
  have hx4:W.heap.size≠w.heap.size/\W.heap.size≠w.heap.size+1:=by
   have:=hS.cb.ltB
   omega
  have HBr:=Lh hbr;have HRe:=Lh hRe;have HS2:=Lh hS1;have hqb:=hS1.qb;have hcb:=hS1.cb;have hbW:=hS1.below;obtain⟨cq,hcq⟩:∃cq,cq=canon (Yi ys):=⟨_,rfl⟩
  obtain⟨cc,hcc⟩:∃cc,cc=canon (Yx ys):=⟨_,rfl⟩
  obtain⟨nq,hnq⟩:∃nq,nq=canon (Yi ys+val y.q):=⟨_,rfl⟩
  obtain⟨nc,hnc⟩:∃nc,nc=canon (Yx ys+val y.cost):=⟨_,rfl⟩
  rw[<-hcq] at HC1 hqb;rw[<-hcc] at HC2 hcb;rw[<-hnq] at HC1 HST;rw[<-hnc] at HC2 HST;have n5:w.heap.size≠w.heap.size+1:=by omega
  clear hWb hbr hy hS hSa hlW hS1 hRe hR1 hlen hyb hl1 hl2 hl3 hl4 hcq hcc hnq hnc hys hS0;rw[hR]
  gi_wp2
  refine⟨_,HBr.out,?_⟩
  gi_wp2_with fail
  obtain⟨tq,htq⟩:=hqb;obtain⟨tc,htc⟩:=hcb;obtain⟨tch,htch⟩:∃tch:Nat->List Nat,tch=fun b=>if b=w.heap.size then [0,8] else if b=w.heap.size+1 then [4,9] else []:=⟨_,rfl⟩
  obtain⟨F,hFd⟩:∃F:Fx,F=fun b=>if b=w.heap.size then some (.cells #[Zg cq] tq (0,0)) else if b=w.heap.size+1 then some (.cells #[Zg cc] tc (0,0)) else none:=⟨_,rfl⟩
  have f1:F w.heap.size=some (.cells #[Zg cq] tq (0,0)):=by rw[hFd];simp
  have f2:F (w.heap.size+1)=some (.cells #[Zg cc] tc (0,0)):=by rw[hFd];simp
  have hXX:∀k,F k≠none->k=w.heap.size∨k=w.heap.size+1:=fun k hk=>by
   rw[hFd] at hk
   by_cases h1:k=w.heap.size
   ·exact .inl h1
   ·by_cases h2:k=w.heap.size+1
    ·exact .inr h2
    ·simp[h1,h2] at hk
  have hlow:∀k,F k≠none->w.heap.size<=k:=fun k hk=>by rcases hXX k hk with rfl|rfl<;>omega
  have hnx:¬(F W.heap.size≠none):=fun hk=>by rcases hXX _ hk with e|e;exact hx4.1 e;exact hx4.2 e
  have hFF:∀b ob,F b=some ob->Wb.heap[b]?=some ob:=fun b ob hb=>by
   rcases hXX b (by rw[hb];simp) with rfl|rfl
   ·rw[f1] at hb;rw[<-Option.some.inj hb];exact htq
   ·rw[f2] at hb;rw[<-Option.some.inj hb];exact htc
  have hq8:(fun k=>if k=w.heap.size then some (Obj.cells (#[Zg cq].setIfInBounds 0 (Zg nq)) tq (0,0)) else F k) (w.heap.size+1)=some (.cells #[Zg cc] tc (0,0)):=by
   show (if w.heap.size+1=w.heap.size then _ else F (w.heap.size+1))=_
   rw[if_neg (by omega),f2]
  refine VN (Lz l) tch F (by kernel_rfl) (by kernel_rfl) (by kernel_rfl) hFF ?_
  refine Z9 (w.heap.size) #[Zg cq] tq _ f1 (by simp[htch]) rfl (fun wz hw hc=>by have q0:=hc 0;go_simp;try rfl) ?_
  simp only[Act.put,StT,StZ,StS,Nat.reduceAdd];refine PfV _ rfl (fun wz hw=>by go_simp;try rfl) ?_
  refine PfV _ rfl (fun wz hw=>by have q0:wz.cell? ⟨W.heap.size,4,none⟩=some (Zg y.q):=(x4.keepX hw hnx).c 4;go_simp;try rfl) ?_
  refine PfC _ _ _ rfl (fun wz hw=>by go_simp;try rfl) (fun wz hw=>HC1.out.of hG (hw.lower hbW hlow)) ?_
  refine Z9 (w.heap.size+1) #[Zg cc] tc _ f2 (by simp[htch]) rfl (fun wz hw hc=>by have q0:=hc 0;go_simp;try rfl) ?_
  simp only[Act.put,StT,StZ,StS,Nat.reduceAdd];refine PfV _ rfl (fun wz hw=>by go_simp;try rfl) ?_
  refine PfV _ rfl (fun wz hw=>by have q0:wz.cell? ⟨W.heap.size,5,none⟩=some (Zg y.cost):=(x4.keepX hw hnx).c 5;go_simp;try rfl) ?_
  refine PfC _ _ _ rfl (fun wz hw=>by go_simp;try rfl) (fun wz hw=>HC2.out.of hG (hw.lower hbW hlow)) ?_
  refine XE (w.heap.size) 0 #[Zg cq] (Zg nq) tq f1 (by simp[htch]) (fun j oj hj=>ZC (l:=[0,8]) (by kernel_rfl) j oj (by simpa [htch] using hj)) rfl (fun wz hw hc hf=>by have q0:=hc 0;have q1:=hf 0;go_simp;try rfl) ?_
  simp only[Act.put,Nat.reduceAdd];refine XE (w.heap.size+1) 0 #[Zg cc] (Zg nc) tc hq8 (by simp[htch]) (fun j oj hj=>ZC (l:=[4,9]) (by kernel_rfl) j oj (by simpa [htch] using hj)) rfl (fun wz hw hc hf=>by have q0:=hc 0;have q1:=hf 0;go_simp;try rfl) ?_
  simp only[Act.put,Nat.reduceAdd];refine YB (fun w4 hF4=>?_)
  have b1:Blk w4 w.heap.size #[Zg nq]:=⟨tq,hF4.box _ _ (by show (if w.heap.size=w.heap.size+1 then _ else if w.heap.size=w.heap.size then _ else _)=_;rw[if_neg (by omega),if_pos rfl];rfl)⟩
  have b2:Blk w4 (w.heap.size+1) #[Zg nc]:=⟨tc,hF4.box _ _ (by show (if w.heap.size+1=w.heap.size+1 then _ else _)=_;rw[if_pos rfl];rfl)⟩
  have HGO:=Lh (HST.out w4 _ hXX hF4.below b1 b2);clear hF4 HS2 HST x4 HBr HC1 HC2 b1 b2 hq8 hFF hnx hlow hXX f1 f2 hFd F htch tch htq htc tq tc
  gi_wp2
  exact⟨_,_,run_endRound (P:=prog) none HGO.out.loop,rfl,XT.done (HRe.out.trans hR) n1 HGO.out⟩
 have key:=HI.out (5-1) l (XT w (.slice A n c) (Zg ins) R d l) (fun ys W h=>⟨hLm.out.below h.below,h.b1,h.b2⟩) (fun ys W W' h hb=>h.mono hb) hY W1 hS0
 refine key.mono ?_;rintro e W2 ⟨hv,hS2⟩;refine⟨hv,hS2.loop,?_⟩;have hS3:XT w (.slice A n c) (Zg ins) { R with state:=.exhausted } d l (ofL ins xs) (W2.putObj l (.loop { R with state:=.exhausted })):=XT.done rfl n1 hS2
 obtain⟨W3,hW3⟩:∃W3,W3=W2.putObj l (.loop { R with state:=.exhausted }):=⟨_,rfl⟩
 rw[<-hW3] at hS3 ⊢;have hD5:=hS3.dfr;have hb5:=hS3.below;have hqb:=hS3.qb;have hcb:=hS3.cb;obtain⟨cq,hcq⟩:∃cq,cq=canon (Yi (ofL ins xs)):=⟨_,rfl⟩
 obtain⟨cc,hcc⟩:∃cc,cc=canon (Yx (ofL ins xs)):=⟨_,rfl⟩
 rw[<-hcq] at hqb;rw[<-hcc] at hcb;have HQ1:=Lh hcq;have HQ2:=Lh hcc;clear hW3 hS3 key hY hS2 hS0 hv HI hcq hcc
 gi_wp2_with fail
 refine wpIn_wide.2 ?_;refine Zx (by kernel_rfl) (by kernel_rfl) ?_
 refine PeW (fun ρ wz hw=>by have q0:wz.cell? ⟨w.heap.size,0,none⟩=some (Zg cq):=(hqb.below hw).c 0;go_simp;try rfl) ?_
 refine PeW (fun ρ wz hw=>by have q0:wz.cell? ⟨w.heap.size+1,0,none⟩=some (Zg cc):=(hcb.below hw).c 0;go_simp;try rfl) ?_
 iterate 2 refine PeV ?_
 refine ZY (fun ρ w9 hF=>?_)
 have hD9:=(hF.below.block _ (Ag.1 hD5).1).trans hD5;have hb9:=bto hb5 hF.below;clear hF hqb hcb hb5 hD5
 gi_wp2
 refine⟨by simp,.inl ⟨_,_,rfl,run_takeDeferred hD9,?_⟩⟩
 refine⟨.tuple #[Zg cq,Zg cc],by simp[results,results21,go_sem],?_⟩
 exact⟨by rw[HQ1.out,HQ2.out],XD hb9 n3⟩
end Go.Proofs.YtpieeldbamklkaaGreatDoor
namespace Go.Proofs.YtpieeldbamklkaaGreatDoor
open Go.RowKit Num
def SF (w:World) (A:Option Addr) (rs:List (List UInt8)):Prop:=∀(i:Nat) (r:List UInt8),rs[i]?=some r->∃b o,A=some ⟨b,o,none⟩/\b<w.heap.size/\w.cell? ⟨b,o+i,none⟩=some (Zg r)
theorem SF.below {w w':World} {A:Option Addr} {rs:List (List UInt8)} (h:SF w A rs) (hb:Below w.heap.size w w'):SF w' A rs:=fun i t ht=>by
 obtain⟨b,o,hA,hl,h0⟩:=h i t ht;exact⟨b,o,hA,Nat.lt_of_lt_of_le hl hb.size,(hb.cell (p:=⟨b,_,none⟩) hl).trans h0⟩
def stV (r:List UInt8):Value:=Zg r
theorem Zcq (f:Nat) (hcall:∀(args:Array Value) w,(callFunc f args).run prog w=.ok (.enter f args) w) (p:(List UInt8)->Bool) (A:Option Addr) (rs:List (List UInt8)) (n c:Nat) (w:World) (hn:rs.length=n) (hn2:n<=1000000000) (h:SF w A rs)
  (hp:∀x∈rs,∀w',Below w.heap.size w w'->Calls prog f #[stV x] w' fun e w''=>e=.returned (.bool (p x))/\Below w'.heap.size w' w'') :
  Calls prog 179 #[.slice A n c,.func (Fn.func f) #[] #[]] w fun e w'=>∃z:Int,e=.returned (Zi z)/\decide (0<=z)=rs.any p/\Below w.heap.size w w':=by
 have HI:=Lh h;have HP:=Lh hp;have hn1:rs.length<=n:=by omega
 have hn3:n<=rs.length:=by omega
 clear h hp hn;go_enter func179,ntmps179;go_wp2_with fail
 go_loopw [8] (fun iv wr=>∃k:Nat,k<=n/\iv=Zi (k:Int)/\Hid (rs.any p=(rs.drop k).any p)/\Below w.heap.size w wr) (fun iv _=>n-(intOf iv).toNat)
 case atStart=>exact⟨0,Nat.zero_le _,rfl,rfl,Below.refl _ _⟩
 case round=>
  obtain⟨k,hk,rfl,HK,hb⟩:=hrel
  by_cases hlt:k<n
  ·obtain⟨x,hx⟩:∃x,rs[k]?=some x:=⟨_,List.getElem?_eq_getElem (by omega)⟩
   obtain⟨b,o,rfl,hbs,p0⟩:=(HI.out.below hb) k x hx;have hd:rs.drop k=x::rs.drop (k+1):=by
    obtain⟨hk2,rfl⟩:=Lg.1 hx;exact List.drop_eq_getElem_cons hk2
   have HD:=Lh hd;have CP:=HP.out x (Lm hx) wr hb;unfold stV at CP;have CP:=Lh CP;clear hx hd;go_wp2_with fail
   refine CP.out.mono ?_
   rintro e w2 ⟨rfl,hb2⟩;replace hb:=bto hb hb2;clear hb2 CP p0
   by_cases hq:p x=true
   ·have HV:Hid (decide (0<=(k:Int))=rs.any p):=by show _=_;rw[HK.out,HD.out,List.any_cons,hq,Dt (by omega)];rfl
    rw[hq];clear hq HK HD;go_wp2;go_ret;exact⟨_,rfl,HV.out,hb⟩
   ·have HV:Hid (rs.any p=(rs.drop (k+1)).any p):=by show _=_;rw[HK.out,HD.out,List.any_cons,YW hq,Bool.false_or]
    rw[YW hq];clear hq HK HD;go_wp2;go_roundw
    case rel=>exact⟨k+1,by omega,by go_num,HV,hb⟩
    case measure=>simp[intOf];omega
  ·have HV:Hid (decide (0<=(-1:Int))=rs.any p):=by show _=_;rw[HK.out,List.drop_of_length_le (by omega)];rfl
   go_wp2;go_ret;exact⟨_,rfl,HV.out,hb⟩
theorem Zcr (f:Nat) (hcall:∀(args:Array Value) w,(callFunc f args).run prog w=.ok (.enter f args) w) (p:(List UInt8)->Bool) (A:Option Addr) (rs:List (List UInt8)) (n c:Nat) (w:World) (hn:rs.length=n) (hn2:n<=1000000000) (h:SF w A rs)
  (hp:∀x∈rs,∀w',Below w.heap.size w w'->Calls prog f #[stV x] w' fun e w''=>e=.returned (.bool (p x))/\Below w'.heap.size w' w'') :
  Calls prog 109 #[.slice A n c,.func (Fn.func f) #[] #[]] w fun e w'=>e=.returned (.bool (rs.any p))/\Below w.heap.size w w':=by
 have C1:=Lh (Zcq f hcall p A rs n c w hn hn2 h hp);clear hn h hp;go_enter func109,ntmps109;go_wp2_with fail;refine C1.out.mono ?_;rintro e w2 ⟨z,rfl,hz,hb⟩;have HZ:=Lh hz;clear hz
 by_cases g:0<=z
 ·have e1:decide (0<=z)=true:=Dt g;go_wp2;go_ret;exact⟨by rw[<-HZ.out,e1];rfl,hb⟩
 ·have e1:decide (0<=z)=false:=Df g;go_wp2;go_ret;exact⟨by rw[<-HZ.out,e1];rfl,hb⟩
def Z7 (ws:List (List UInt8)):Int:=(ws.map val).sum
theorem QA (ws:List (List UInt8)) (r:List UInt8):Z7 (ws++[r])=Z7 ws+val r:=by simp[Z7]
theorem NH (r:List UInt8) (ws:List (List UInt8)):Z7 (r::ws)=val r+Z7 ws:=by simp[Z7]
theorem I2 (e:Nat):∀(ws:List (List UInt8)),(∀r∈ws,r.length<=e)->(Z7 ws).natAbs<=ws.length*10 ^ e
 | [],_=>by simp[Z7]
 | r::t,h=>by
  have h1:=I2 e t (fun y hy=>h y (List.mem_cons_of_mem _ hy))
  have h2:=Nat.le_of_lt (Zw (h r List.mem_cons_self));have h3:=Int.natAbs_add_le (val r) (Z7 t);rw[NH,List.length_cons,Nat.add_mul,Nat.one_mul];omega
theorem SH (e:Nat) (ws:List (List UInt8)) (hx:∀r∈ws,r.length<=e) (hn:ws.length<=100000):(canon (Z7 ws)).length<=e+8:=by
 have h1:=I2 e ws hx;refine Nt (Zu _ (e+6) ?_) (by omega)
 have h2:ws.length*10 ^ e<=100000*10 ^ e:=Nat.mul_le_mul_right _ hn;have h3:(100000:Nat)*10 ^ e<10 ^ (e+6):=by
  rw[Nat.pow_add,Nat.mul_comm];exact Nat.mul_lt_mul_of_pos_left (by decide) (Nat.pow_pos (by decide))
 omega
structure WR (w:World) (A:Option Addr) (ws:List (List UInt8)) (n:Nat):Prop where
 len:ws.length=n
 big:n<=100000
 sm:∀r∈ws,r.length<=2000
 mem:SF w A ws
theorem WR.below {w w':World} {A:Option Addr} {ws:List (List UInt8)} {n:Nat} (h:WR w A ws n) (hb:Below w.heap.size w w'):WR w' A ws n:=⟨h.len,h.big,h.sm,h.mem.below hb⟩
theorem Dg {w:World} {A:Option Addr} {ws:List (List UInt8)} {n:Nat} (c:Nat) (hG:Yb w) (hI:WR w A ws n) :
  Calls prog 241 #[.slice A n c] w fun e w'=>e=.returned (Zg (canon (Z7 ws)))/\Below w.heap.size w w':=by
 have HI:=Lh hI.mem;have HX:=Lh hI.sm;have hn1:ws.length<=n:=by have:=hI.len;omega
 have hn2:n<=ws.length:=by have:=hI.len;omega
 have hn3:=hI.big;clear hI;go_enter func241,ntmps241;go_wp2_with fail
 go_loopw [3,5,8] (fun sv _ iv wr=>∃(k:Nat) (s:List UInt8),k<=n/\sv=Zg s/\iv=Zi (k:Int)/\Hid (s=canon (Z7 (ws.take k)))/\Below w.heap.size w wr) (fun _ _ iv _=>n-(intOf iv).toNat)
 case atStart=>exact⟨0,[],Nat.zero_le _,rfl,rfl,(by show ([]:List UInt8)=canon 0;decide),Below.refl _ _⟩
 case round=>
  obtain⟨k,s,hk,rfl,rfl,HS,hb⟩:=hrel
  by_cases hlk:k<n
  rotate_left
  ·have HQ:Hid (s=canon (Z7 ws)):=by show _=_;rw[HS.out,List.take_of_length_le (by omega)]
   have e1:decide (k<n)=false:=Df hlk;clear HS;go_wp2;go_ret;exact⟨congrArg Ending.returned (str_eq HQ.out),hb⟩
  have e1:decide (k<n)=true:=Dt hlk;obtain⟨r,hr⟩:∃r,ws[k]?=some r:=⟨_,List.getElem?_eq_getElem (by omega)⟩
  obtain⟨b,o,rfl,hbs,p0⟩:=(HI.out.below hb) k r hr;have hrl:=HX.out r (Lm hr);have hsl:s.length<=2008:=by
   rw[HS.out];exact SH 2000 _ (fun y hy=>HX.out y (List.mem_of_mem_take hy)) (by rw[List.length_take];omega)
  have HN:Hid (canon (val s+val r)=canon (Z7 (ws.take (k+1)))):=by
   show _=_;obtain⟨hk',rfl⟩:=Lg.1 hr;rw[List.take_succ_eq_append_getElem hk',QA];congr 2;rw[HS.out,Zm]
  have C1:=Lh (XX (l:=s) (l':=r) (by omega) (by omega) rfl)
  obtain⟨s',hs'⟩:∃s',s'=canon (val s+val r):=⟨_,rfl⟩
  rw[<-hs'] at C1 HN;clear hr HS hrl hsl hs';go_wp2_with fail
  refine (C1.out.of hG hb).mono ?_
  rintro e w2 ⟨rfl,hb2⟩;replace hb:=bto hb hb2;clear p0 hb2 C1;go_wp2;go_roundw
  case rel=>exact⟨k+1,s',by omega,rfl,by go_num,HN.out,hb⟩
  case measure=>simp[intOf];omega
theorem Tn {l:List UInt8} (hl:l.length<=100000):Ret 240 #[Zg l] (.bool (decide (val l<0))):=fun w hG=>by
 have hb:=Below.refl w.heap.size w;have C1:=Lh (ZF (l:=l) (l':=[]) (by omega) (by decide) (show _=ZH (val l) 0 from rfl))
 have hz:=(Ly (val l)).2.1;have HV:Hid (decide (ZH (val l) 0<0)=decide (val l<0)):=by show _=_;rw[decide_eq_decide];exact hz
 generalize ZH (val l) 0=c at *;generalize decide (val l<0)=R at *;clear hz;go_enter func240,ntmps240;go_wp2_with fail
 refine (C1.out.of hG hb).mono ?_
 rintro e w1 ⟨rfl,hb1⟩;go_wp2;go_ret;exact⟨ZR HV.out,bto hb hb1⟩
def PD (r:List UInt8):Bool:=!decide (r=canon (val r))||decide (val r<0)
theorem AV {r:List UInt8} (hl:r.length<=100000):Ret 239 #[Zg r] (.bool (PD r)):=fun w hG=>by
 have hb:=Below.refl w.heap.size w;have C1:=Lh (Yv (l:=r) (by omega) rfl)
 have C2:=Lh (Tn (l:=r) hl);have HV:Hid (PD r=(!decide (r=canon (val r))||decide (val r<0))):=rfl
 generalize PD r=R at *
 by_cases g:r=canon (val r)
 ·have HV2:Hid (R=decide (val r<0)):=by show _=_;rw[HV.out,Dt g];rfl
  rw[if_pos g] at C1;generalize decide (val r<0)=nb at *;clear HV g;go_enter func239,ntmps239;go_wp2_with fail
  refine (C1.out.of hG hb).mono ?_
  rintro e w1 ⟨rfl,hb1⟩;replace hb:=bto hb hb1;go_wp2_with fail
  refine (C2.out.of hG hb).mono ?_
  rintro e w2 ⟨rfl,hb2⟩;go_wp2;go_ret;exact⟨ZR HV2.out.symm,bto hb hb2⟩
 ·have HV2:Hid (R=true):=by show _=_;rw[HV.out,Df g];rfl
  rw[if_neg g] at C1;clear HV g C2;go_enter func239,ntmps239;go_wp2_with fail
  refine (C1.out.of hG hb).mono ?_
  rintro e w1 ⟨rfl,hb1⟩;go_wp2;go_ret;exact⟨ZR HV2.out.symm,bto hb hb1⟩
theorem G1 (args:Array Value) (w:World):(callFunc 239 args).run prog w=.ok (.enter 239 args) w:=by kernel_rfl
def Tx (T:List UInt8) (ws:List (List UInt8)):Int:=
 if ws.length=0 then 11 else if 1000<ws.length then 4 else if ¬T=canon (val T) then 1 else if ws.any PD=true then 1 else if Z7 ws=0 then 10 else 0
theorem SJ {T:List UInt8} {ws:List (List UInt8)} (h:Tx T ws=0):1<=ws.length/\ws.length<=1000/\T=canon (val T)/\(∀r∈ws,r=canon (val r)/\0<=val r)/\Z7 ws≠0:=by
 unfold Tx at h
 by_cases h0:ws.length=0
 ·rw[if_pos h0] at h;exact absurd h (by decide)
 rw[if_neg h0] at h
 by_cases h1:1000<ws.length
 ·rw[if_pos h1] at h;exact absurd h (by decide)
 rw[if_neg h1] at h
 by_cases h2:¬T=canon (val T)
 ·rw[if_pos h2] at h;exact absurd h (by decide)
 rw[if_neg h2] at h
 by_cases h3:ws.any PD=true
 ·rw[if_pos h3] at h;exact absurd h (by decide)
 rw[if_neg h3] at h
 by_cases h4:Z7 ws=0
 ·rw[if_pos h4] at h;exact absurd h (by decide)
 refine⟨by omega,by omega,Decidable.not_not.1 h2,fun r hr=>?_,h4⟩
 have h5:PD r=false:=by
  cases hc:PD r with
  | false=>rfl
  | true=>exact absurd (List.any_eq_true.2 ⟨r,hr,hc⟩) h3
 unfold PD at h5;simp at h5;exact⟨h5.1,h5.2⟩
theorem Nm {z:Int}:(canon z==[])=decide (z=0):=by
 by_cases h:z=0
 ·subst h;decide
 ·rw[Df h,Bn];intro hc
  have:=Zm z
  rw[hc] at this;exact h this.symm
theorem Dh {w:World} {A:Option Addr} {ws:List (List UInt8)} {n:Nat} (c:Nat) {T:List UInt8} (hT:T.length<=100000) (hG:Yb w) (hI:WR w A ws n) :
  Calls prog 188 #[Zg T,.slice A n c] w fun e w'=>e=.returned (Zi (Tx T ws))/\Below w.heap.size w w':=by
 have hn:=hI.len;have hn3:=hI.big;have hb:=Below.refl w.heap.size w;have C1:=Lh (Yv (l:=T) (by omega) rfl)
 have C2:=Lh (fun (w':World) (hb':Below w.heap.size w w')=>Zcr _ G1 PD A ws n c w' hn (by omega) (hI.mem.below hb') (fun q hq w2 hb2=>AV (Nt (hI.sm q hq) (by decide)) w2 ((hG.below hb').below hb2)))
 have C3:=Lh (fun (w':World) (hb':Below w.heap.size w w')=>Dg c (hG.below hb') (hI.below hb'))
 obtain⟨E,hE⟩:∃E,E=Tx T ws:=⟨_,rfl⟩
 rw[<-hE];unfold Tx at hE;rw[hn] at hE;have HV:=Lh hE;clear hE hn hI
 by_cases g1:n=0
 ·have HQ:Hid (E=11):=by show _=_;rw[HV.out,if_pos g1]
  subst g1;clear HV;go_enter func188,ntmps188;go_wp2;go_ret;exact⟨Z2 HQ.out.symm,hb⟩
 have HV1:=Lh (HV.out.trans (if_neg g1));have e1:(n==0)=false:=by rw[Bn];exact g1
 have e1':((n:Int)==0)=false:=by rw[Bn];omega
 clear HV g1
 by_cases g2:1000<n
 ·have HQ:Hid (E=4):=by show _=_;rw[HV1.out,if_pos g2]
  have e2:decide (1000<n)=true:=Dt g2;have e2':decide ((1000:Int)<(n:Int))=true:=Dt (by omega)
  clear HV1 g2;go_enter func188,ntmps188;go_wp2;go_ret;exact⟨Z2 HQ.out.symm,hb⟩
 have HV2:=Lh (HV1.out.trans (if_neg g2));have e2:decide (1000<n)=false:=Df g2;have e2':decide ((1000:Int)<(n:Int))=false:=Df (by omega)
 clear HV1 g2
 by_cases g3:T=canon (val T)
 rotate_left
 ·have HQ:Hid (E=1):=by show _=_;rw[HV2.out,if_pos g3]
  rw[if_neg g3] at C1;clear HV2 g3 C2 C3;go_enter func188,ntmps188;go_wp2_with fail
  refine (C1.out.of hG hb).mono ?_
  rintro e w1 ⟨rfl,hb1⟩;go_wp2;go_ret;exact⟨Z2 HQ.out.symm,bto hb hb1⟩
 have HV3:=Lh (HV2.out.trans (if_neg (fun h=>h g3)))
 rw[if_pos g3] at C1;clear HV2 g3;go_enter func188,ntmps188;go_wp2_with fail
 refine (C1.out.of hG hb).mono ?_
 rintro e w1 ⟨rfl,hb1⟩;replace hb:=bto hb hb1;clear hb1 C1;go_wp2_with fail;refine (C2.out _ hb).mono ?_;rintro e w2 ⟨rfl,hb2⟩;replace hb:=bto hb hb2;clear hb2 C2
 by_cases g4:ws.any PD=true
 ·have HQ:Hid (E=1):=by show _=_;rw[HV3.out,if_pos g4]
  rw[g4];clear HV3 g4 C3;go_wp2;go_ret;exact⟨Z2 HQ.out.symm,hb⟩
 have HV4:=Lh (HV3.out.trans (if_neg g4));rw[YW g4];clear HV3 g4;go_wp2_with fail;refine (C3.out _ hb).mono ?_;rintro e w3 ⟨rfl,hb3⟩;replace hb:=bto hb hb3;clear hb3 C3;have hci:=Nm (z:=Z7 ws);obtain⟨s,hs⟩:∃s,s=canon (Z7 ws):=⟨_,rfl⟩
 rw[<-hs] at hci ⊢
 by_cases g5:Z7 ws=0
 ·have HQ:Hid (E=10):=by show _=_;rw[HV4.out,if_pos g5]
  rw[Dt g5] at hci;have hem:s.isEmpty=true:=by rw[List.isEmpty_iff];simpa using hci
  clear HV4 g5 hs;go_wp2;go_ret;exact⟨Z2 HQ.out.symm,hb⟩
 ·have HQ:Hid (E=0):=by show _=_;rw[HV4.out,if_neg g5]
  rw[Df g5] at hci;have hem:s.isEmpty=false:=by rw[List.isEmpty_eq_false_iff];simpa using hci
  clear HV4 g5 hs;go_wp2;go_ret;exact⟨Z2 HQ.out.symm,hb⟩
end Go.Proofs.YtpieeldbamklkaaGreatDoor
namespace Go.Proofs.YtpieeldbamklkaaGreatDoorMono
open Go
def rd {α:Type}:Result α->Nat
 | .ok _ w=>w.drawn
 | .halt _ w=>w.drawn
theorem OJ {α:Type}:∀(a:Ask α) (w:World),w.drawn<=(w.ask a).2.drawn
 | .done a,w=>Nl _
 | .ask what range k,w=>by
  unfold World.ask;simp only
  split
  ·exact OJ (k 0) w
  ·exact Nt (Nat.le_succ _) (OJ (k _) { w with drawn:=w.drawn+1 })
theorem OK (w:World) (c:Sys):w.drawn<=(w.sys c).2.drawn:=by
 unfold World.sys;have h:=OJ (Kernel.perform c w.os) w;generalize w.ask (Kernel.perform c w.os)=r at *;obtain⟨⟨r,os⟩,w'⟩:=r;cases r<;>first|exact Nl _|exact h
theorem Q4 (w:World) (a:Addr) (n:Nat):(w.freeze a n).drawn=w.drawn:=by
 unfold World.freeze;split<;>rfl
theorem G2 {p:Program} {w w':World} {t:Addr} {u:TypeId} {k:Addr} {v:Value} {b:Bool} {l:List Addr} (h:w.viewStore p t u k v b=.ok (w',l)):w'.drawn=w.drawn:=by
 unfold World.viewStore at h;simp only[bind,Except.bind,pure,Except.pure] at h
 repeat' (first|contradiction|split at h)
 all_goals first|contradiction|(simp at h;obtain⟨rfl,-⟩:=h;rfl)|skip
theorem LC {p:Program} {w w':World} {a:Addr} {v:Value} {b:Bool} {l:List Addr} (h:w.farStore p a v b=.ok (w',l)):w'.drawn=w.drawn:=by
 unfold World.farStore at h
 split at h
 ·split at h
  ·rename_i h2;simp at h;obtain⟨rfl,rfl⟩:=h;exact G2 h2
  ·cases h
 ·cases h
theorem Yc {α:Type} (p:Program):∀(s:Sem α) (w:World),w.drawn<=rd (s.run p w)
 | .pure a,w=>Nl _
 | .load m a k,w=>by
  unfold Sem.run
  split
  ·exact Yc p _ w
  ·split
   ·exact Yc p _ w
   ·exact Nl _
 | .store m a v k,w=>by
  unfold Sem.run
  split<;>first|exact Nl _|skip
  all_goals first|contradiction|skip
  all_goals (try (rename_i h;cases h))
  all_goals split
  all_goals first
   | (split<;>first|exact Nl _|(refine Nt (Nat.le_of_eq ?_) (Yc p _ _);rfl))
   | (
    split
    ·rename_i h;exact Nt (Nat.le_of_eq (LC h).symm) (Yc p _ _)
    ·exact Nl _)
 | .new o k,w=>by unfold Sem.run;exact Yc p _ { w with heap:=w.heap.push o }
 | .shape r k,w=>by unfold Sem.run;exact Yc p _ w
 | .freeze a n k,w=>by
  unfold Sem.run
  have:=Yc p k (w.freeze a n)
  rwa [Q4] at this
 | .frozen a k,w=>by unfold Sem.run;exact Yc p _ w
 | .getObj r k,w=>by
  unfold Sem.run
  split
  ·exact Nl _
  ·exact Yc p _ w
  ·exact Nl _
 | .setObj r o k,w=>by
  unfold Sem.run
  split
  ·exact Nl _
  ·exact Yc p k { w with heap:=w.heap.setIfInBounds r o }
  ·exact Nl _
 | .choose q k,w=>by
  unfold Sem.run
  split
  ·exact Yc p _ w
  ·exact Nt (Nat.le_succ _) (Yc p _ { w with drawn:=w.drawn+1 })
 | .sys c k,w=>by
  unfold Sem.run;exact Nt (OK w c) (Yc p _ _)
 | .program k,w=>by unfold Sem.run;exact Yc p _ w
 | .mark m k,w=>by unfold Sem.run;exact Yc p k w
 | .halt h,w=>Nl _
theorem ZQ {α:Type} (p:Program):∀(s:Sem α) (w:World) (es:Array Event),w.drawn<=rd (s.runT p w es).1
 | .pure a,w,_=>Nl _
 | .load m a k,w,es=>by
  unfold Sem.runT
  split
  ·exact ZQ p _ w _
  ·split
   ·exact ZQ p _ w _
   ·exact Nl _
 | .store m a v k,w,es=>by
  unfold Sem.runT
  split<;>first|exact Nl _|skip
  all_goals first|contradiction|skip
  all_goals (try (rename_i h;cases h))
  all_goals split
  all_goals first
   | (split<;>first|exact Nl _|(refine Nt (Nat.le_of_eq ?_) (ZQ p _ _ _);rfl))
   | (
    split
    ·rename_i h;exact Nt (Nat.le_of_eq (LC h).symm) (ZQ p _ _ _)
    ·exact Nl _)
 | .new o k,w,es=>by unfold Sem.runT;exact ZQ p _ { w with heap:=w.heap.push o } _
 | .shape r k,w,es=>by unfold Sem.runT;exact ZQ p _ w _
 | .freeze a n k,w,es=>by
  unfold Sem.runT
  have:=ZQ p k (w.freeze a n) es
  rwa [Q4] at this
 | .frozen a k,w,es=>by unfold Sem.runT;exact ZQ p _ w _
 | .getObj r k,w,es=>by
  unfold Sem.runT
  split
  ·exact Nl _
  ·exact ZQ p _ w _
  ·exact Nl _
 | .setObj r o k,w,es=>by
  unfold Sem.runT
  split
  ·exact Nl _
  ·exact ZQ p k { w with heap:=w.heap.setIfInBounds r o } _
  ·exact Nl _
 | .choose q k,w,es=>by
  unfold Sem.runT
  split
  ·exact ZQ p _ w _
  ·exact Nt (Nat.le_succ _) (ZQ p _ { w with drawn:=w.drawn+1 } _)
 | .sys c k,w,es=>by
  unfold Sem.runT;exact Nt (OK w c) (ZQ p _ _ _)
 | .program k,w,es=>by unfold Sem.runT;exact ZQ p _ w _
 | .mark m k,w,es=>by unfold Sem.runT;exact ZQ p k w _
 | .halt h,w,es=>Nl _
theorem Xg {α:Type} {p:Program} {s:Sem α} {w w':World} {a:α} (h:s.run p w=.ok a w'):w.drawn<=w'.drawn:=by
 have:=Yc p s w;rw[h] at this;exact this
theorem run_halt {α:Type} {p:Program} {s:Sem α} {w w':World} {a:Halt} (h:s.run p w=.halt a w'):w.drawn<=w'.drawn:=by
 have:=Yc p s w;rw[h] at this;exact this
theorem AW {α:Type} {p:Program} {s:Sem α} {w w':World} {a:α} {es es':Array Event} (h:s.runT p w es=(.ok a w',es')):w.drawn<=w'.drawn:=by
 have:=ZQ p s w es;rw[h] at this;exact this
theorem G3 {α:Type} {p:Program} {s:Sem α} {w w':World} {a:Halt} {es es':Array Event} (h:s.runT p w es=(.halt a w',es')):w.drawn<=w'.drawn:=by
 have:=ZQ p s w es;rw[h] at this;exact this
theorem JL {α:Type} {p:Program} {s:Sem α} {w w':World} {a:α} {es:Array Event} (h:(s.runT p w es).1=.ok a w'):w.drawn<=w'.drawn:=by
 have:=ZQ p s w es;rw[h] at this;exact this
theorem Di {α:Type} {p:Program} {s:Sem α} {w w':World} {a:Halt} {es:Array Event} (h:(s.runT p w es).1=.halt a w'):w.drawn<=w'.drawn:=by
 have:=ZQ p s w es;rw[h] at this;exact this
def gw:GStep->World
 | .go _ w _=>w
 | .comm _ _ _ _ w _=>w
 | .spawn _ _ w _=>w
 | .count _ w _=>w
 | .timer _ _ w _=>w
 | .alone _ _ w _=>w
 | .newcoro _ _ _ w _=>w
 | .coroswitch _ _ _ w _=>w
 | .collect _ w _=>w
 | .watch _ w _=>w
 | .ended _ w _=>w
def gd (s:GStep):Nat:=(gw s).drawn
theorem V4 (es:Array Event) (s:GStep):gd (GStep.after es s)=gd s:=by cases s<;>rfl
theorem LD {c:Prop} [Decidable c] {a b:GStep} {d:Nat} (h1:d<=gd a) (h2:d<=gd b):d<=gd (if c then a else b):=by split<;>assumption
theorem WC (p:Program) (main:Bool) (fr:Frame) (callers:List Frame) (dying:Option Dying) (v:Value) (w:World):w.drawn<=gd (doReturn p main fr callers dying v w):=by
 unfold doReturn
 repeat' (first|exact Nl _|split)
theorem VR (fr:Frame) (m:String) (w:World):w.drawn<=gd (endThrow fr m w):=Nl _
theorem V5 (p:Program) (fr:Frame) (v:Value) (w:World):w.drawn<=gd (endPrinting p fr v w):=by
 unfold endPrinting;simp only
 split<;>exact Nl _
theorem TL (p:Program) (fr:Frame) (callers:List Frame) (dying:Option Dying) (m:String) (w:World):w.drawn<=gd (endFatal p fr callers dying m w):=by
 unfold endFatal;simp only
 split<;>first|exact Xg ‹_› | exact run_halt ‹_›
theorem MF (w:World) (fd:Nat) (t:ByteArray) (o:Outcome):w.drawn<=gd (endWith w fd t o):=by
 unfold endWith;simp only;have h:=OK w (.write fd t);generalize w.sys (.write fd t)=r at *;obtain⟨r,w'⟩:=r;cases r<;>(simp only;repeat' (first|exact h|split))
theorem SK (p:Program) (fr:Frame) (callers:List Frame) (dying:Option Dying) (d:Deferred) (w:World):w.drawn<=gd (callDeferred p fr callers dying d w):=by
 unfold callDeferred;refine LD (Nl _) ?_
 ·have h:=ZQ p (invoke d.target d.args) w #[];generalize (invoke d.target d.args).runT p w #[]=r at *;obtain⟨r,es⟩:=r;simp only;rw[V4]
  repeat' (first|exact h|exact Nt h (TL ..)|exact Nt h (VR ..)|split)
theorem LE (p:Program) (main:Bool) (fr:Frame) (callers:List Frame) (dying:Option Dying) (w:World):w.drawn<=gd (unwind p main fr callers dying w):=by
 unfold unwind
 split
 ·rename_i block _ _ _;have h:=ZQ p (Instr.takeDeferred block) w #[];generalize (Instr.takeDeferred block).runT p w #[]=r at *;obtain⟨r,es⟩:=r;simp only;rw[V4]
  repeat' (first|exact h|split)
 ·exact SK ..
 ·split
  ·exact Nl _
  ·repeat' (first|exact Nl _|exact V5 .. | (exact Xg ‹_›)|(exact run_halt ‹_›)|split)
  ·split
   ·exact WC ..
   ·rename_i fn _;have h:=ZQ p (results fn fr.tmps) w #[];generalize (results fn fr.tmps).runT p w #[]=r at *;obtain⟨r,es⟩:=r;simp only;rw[V4]
    repeat' (first|exact h|exact Nt h (WC ..)|split)
theorem MG (p:Program) (fr:Frame) (d:Dying) (f:Fatal) (w:World):w.drawn<=gd (writeOn p fr d f w):=by
 unfold writeOn;simp only
 split
 ·exact Nl _
 ·split<;>first|exact AW ‹_› | exact G3 ‹_›
theorem Dj (p:Program) (fr:Frame) (d:Dying) (w:World):w.drawn<=gd (die p fr d w):=by
 unfold die
 split
 ·exact MG ..
 ·split
  ·split
   ·exact Nl _
   ·exact MF ..
  ·simp only
   split
   ·exact Nl _
   ·split<;>first|exact Xg ‹_› | exact run_halt ‹_›
   ·rename_i t recv name _;have h:=ZQ p (invoke (.fn (.method name) #[]) #[.iface t recv]) w #[];generalize (invoke (.fn (.method name) #[]) #[.iface t recv]).runT p w #[]=r at *;obtain⟨r,es⟩:=r;simp only;rw[V4]
    repeat' (first|exact Nl _|exact h|exact Nt h (V5 ..)|split)
   ·exact Nl _
theorem JM (p:Program) (fr:Frame) (callers:List Frame) (dying:Option Dying) (g:Nat) (w:World):w.drawn<=gd (early p fr callers dying g w):=by
 have hn:∀w:World,w.drawn<=gd (match w.heap[g]? with
  | some (.pending c elem)=>GStep.go { frame:=fr,callers,status:=.running,dying } { w with heap:=w.heap.setIfInBounds g (.cells c elem) }
  | _=>.ended (.stuck "early: the variable does not wait" (fr.pos p)) w):=fun w=>by
   split<;>exact Nl _
 unfold early;simp only
 split
 ·exact hn w
 ·split
  ·exact Nl _
  ·repeat' (first|exact Nl _|exact hn w|exact Nt (Xg ‹_›) (hn _)|exact Xg ‹_› | exact run_halt ‹_› | split)
theorem TZ (p:Program) (listen:Bool) (fr:Frame) (callers:List Frame) (dying:Option Dying) (s:Sem Next) (w:World):w.drawn<=gd (stepG.apply p listen fr callers dying s w):=by
 unfold stepG.apply;simp only;have h:w.drawn<=rd (if listen=true then s.runT p w #[] else (s.run p w,#[])).1:=by
  split
  ·exact ZQ p s w #[]
  ·exact Yc p s w
 generalize (if listen=true then s.runT p w #[] else (s.run p w,#[]))=r at *
 obtain⟨r,es⟩:=r;simp only;rw[V4];cases r with
 | ok n w'=>
  have h:w.drawn<=w'.drawn:=h;cases n<;>simp only<;>(repeat' (first|exact h|exact Nt h (VR ..)|(refine LD ?_ ?_)|split))
 | halt n w'=>
  have h:w.drawn<=w'.drawn:=h;cases n with
  | unsupported u=>cases u<;>(try simp only)<;>(first|exact h|exact Nt h (JM ..))
  | _=>(try simp only);(first|exact h|exact Nt h (VR ..)|exact Nt h (TL ..))
theorem G4 (p:Program) (listen:Bool) (fr:Frame) (callers:List Frame) (dying:Option Dying) (w:World):w.drawn<=gd (stepG.oper p listen fr callers dying w):=by
 unfold stepG.oper
 repeat' (first|exact Nl _|exact TZ p listen .. | split)
theorem G5 (p:Program) (main listen:Bool) (fr:Frame) (callers:List Frame) (dying:Option Dying) (w:World):w.drawn<=gd (stepG.exec p main listen fr callers dying w):=by
 unfold stepG.exec;simp only
 split
 all_goals (repeat' (first
  | with_reducible exact TZ p listen ..
  | with_reducible exact G4 ..
  | with_reducible exact WC ..
  | (with_reducible rw[V4])
  | split
  | exact JL ‹_›
  | exact Di ‹_›
  | exact Nt (JL ‹_›) (WC ..)
  | exact Nt (JL ‹_›) (TZ p listen ..)
  | exact Xg ‹_›
  | exact run_halt ‹_›
  | exact Nl _
  | (simp only[Option.elim])))
theorem JN (p:Program) (main:Bool) (g:Goroutine) (w:World) (listen:Bool):w.drawn<=gd (stepG p main g w listen):=by
 unfold stepG;obtain⟨fr,callers,st,dying,offers⟩:=g;simp only
 split
 ·exact Dj ..
 ·exact G5 ..
 ·exact LE ..
def SD (d:Nat):Stepped->Prop
 | .next m=>d<=m.world.drawn
 | _=>True
theorem JO (w:World) (c:Nat):(drain w c).2.drawn=w.drawn:=by
 unfold drain;split<;>rfl
theorem Q5 (m:Machine) (k:Nat) (t:Timer) (a b:Nat):(retime m k t a b).2.world.drawn=m.world.drawn:=by
 unfold retime;cases t.chan with
 | none=>rfl
 | some c=>exact JO _ _
theorem JP {m m':Machine} {op:TimerOp} {v:Value} (h:timerOp m op=.ok (v,m')):m'.world.drawn=m.world.drawn:=by
 unfold timerOp at h
 split at h
 ·split at h
  ·simp at h;obtain⟨-,rfl⟩:=h;rfl
  ·split at h
   ·split at h
    ·cases h
    ·simp at h;obtain⟨-,rfl⟩:=h;rfl
   ·cases h
 ·unfold timerOp.named at h
  split at h
  ·simp only[Except.ok.injEq] at h
   have:=congrArg (fun x:Value×Machine=>x.2.world.drawn) h
   simp only[Q5] at this;exact this.symm
  ·cases h
 ·split at h
  ·rename_i m1 ho;unfold timerOp.opened at ho;have e:m1.world.drawn=m.world.drawn:=by
    split at ho
    ·split at ho
     ·simp at ho;subst ho;rfl
     ·cases ho
    ·simp at ho;subst ho;rfl
   unfold timerOp.named at h
   split at h
   ·simp only[Except.ok.injEq] at h
    have:=congrArg (fun x:Value×Machine=>x.2.world.drawn) h
    simp only[Q5] at this;exact this.symm.trans e
   ·cases h
  ·cases h
 ·simp at h;obtain⟨-,rfl⟩:=h;rfl
theorem NI (p:Program) (gs:Array Goroutine) (rest:Rest) (w:World):SD w.drawn (look p gs rest w):=by
 unfold look
 split
 ·simp only
  split
  ·trivial
  ·split
   ·trivial
   ·split
    ·rename_i h;have h1:=Xg h;exact h1
    ·trivial
    ·trivial
 ·trivial
theorem JQ (p:Program) (m:Machine) (k:Nat):SD m.world.drawn (serve p m k):=by
 unfold serve
 split
 ·trivial
 ·exact Nl _
 ·simp only
  split
  ·trivial
  ·exact Nl _
theorem MH {rest:Rest} {cases:Array CommCase} {w w':World} (h:waitingAt rest cases w=some w'):w'.drawn=w.drawn:=by
 unfold waitingAt at h
 split at h
 ·split at h
  ·simp at h;subst h;rfl
  ·cases h
 ·simp at h;subst h;rfl
theorem G6 (p:Program) (rest:Rest) (gs:Array Goroutine) (i:Nat) (g:Goroutine) (cases:Array CommCase) (blocking:Bool) (shape:CommShape) (w:World):SD w.drawn (communicate p rest gs i g cases blocking shape w).1:=by
 unfold communicate;simp only
 split
 ·trivial
 ·split
  ·split
   ·split
    ·rename_i h;exact Nat.le_of_eq (MH h).symm
    ·trivial
   ·exact Nl _
  ·split
   ·trivial
   ·rename_i k c way w' h;have h1:=Xg h
    repeat' (first|trivial|exact h1|(have h2:=Nt h1 (Xg ‹_›);exact h2)|(have h2:=Nt h1 (run_halt ‹_›);exact h2)|split)
theorem G7 (p:Program) (m:Machine) (i:Nat) (listen:Bool):SD m.world.drawn (runT p m i listen).1:=by
 unfold runT;simp only;have h:=JN p (i==0) (m.gs.swapAt! i { (default:Goroutine) with status:=.finished }).1 m.world listen
 generalize stepG p (i==0) (m.gs.swapAt! i { (default:Goroutine) with status:=.finished }).1 m.world listen=s at *
 generalize (m.gs.swapAt! i { (default:Goroutine) with status:=.finished })=sw at *
 obtain⟨g0,gs⟩:=sw;simp only;cases s with
 | ended o w es=>trivial
 | comm g cases blocking shape w es=>
  have h1:=G6 p m.rest gs i g cases blocking shape w;simp only;generalize (communicate p m.rest gs i g cases blocking shape w)=r at *;obtain⟨r,more⟩:=r;cases r with
  | next m'=>exact Nt h h1
  | ended=>trivial
 | go g w es=>exact h
 | spawn g child w es=>exact h
 | count g w es=>simp only;split<;>first|trivial|exact h
 | timer g op w es=>
  simp only
  split
  ·rename_i v m' ht
   have:=JP ht
   exact Nt h (Nat.le_of_eq this.symm)
  ·exact h
  ·trivial
  ·trivial
 | alone g on w es=>exact h
 | newcoro g c d w es=>exact h
 | coroswitch g c exit w es=>
  simp only
  split
  ·exact h
  ·exact h
  ·trivial
 | collect g w es=>
  simp only;have h1:=NI p (gs.setIfInBounds i g) m.rest w;generalize look p (gs.setIfInBounds i g) m.rest w=r at *;cases r with
  | next m'=>exact Nt h h1
  | ended=>trivial
 | watch g w es=>exact h
def MD (d:Nat):Move->Prop
 | .goroutine m _=>d<=m.world.drawn
 | .machine s _=>SD d s
theorem SD.trans {a b:Nat} {s:Stepped} (h:a<=b) (hs:SD b s):SD a s:=by
 cases s with
 | next m=>exact Nt h hs
 | ended=>trivial
theorem QB {p:Program} {rs:List Nat} {d:Nat} (m:Machine) (w:World) (h:d<=w.drawn):MD d (match (choose (.sched rs.length)).run p w with
   | .halt _ w=>.machine (.ended (.stuck "sched" "") w)
   | .ok k world=>
    if rs.length<=1 then .goroutine { m with world } (rs.getD k 0) else
    match (choose (.extern "sched.slice" 65536)).run p world with
    | .halt _ w=>.machine (.ended (.stuck "sched.slice" "") w)
    | .ok n world=>.goroutine { m with world,rest:={ m.rest with slice:=if n=0 then none else some (rs.getD k 0,n) } } (rs.getD k 0)):=by
 split
 ·trivial
 ·rename_i k w1 e1;have h1:=Nt h (Xg e1)
  split
  ·exact h1
  ·split
   ·trivial
   ·rename_i n w2 e2;exact Nt h1 (Xg e2)
theorem T0 (p:Program) (m:Machine):MD m.world.drawn (askOn p m):=by
 unfold askOn;dsimp only
 split
 ·trivial
 ·rename_i k w' h;have h1:=Xg h
  split
  ·exact SD.trans h1 (JQ p { m with world:=w' } _)
  ·split
   ·split
    ·exact h1
    ·split
     ·exact h1
     ·split<;>trivial
   ·split
    ·exact QB (rs:=_) { m with world:=w' } w' h1
    ·split
     ·trivial
     ·rename_i e2;exact QB (rs:=_) _ _ (Nt h1 (Xg e2))
     ·rename_i e2;have h2:=Nt h1 (Xg e2);exact h2
     ·rename_i e2;have h2:=Nt h1 (Xg e2);exact QB (rs:=_) _ _ h2
theorem NJ (p:Program) (m:Machine):MD m.world.drawn (ask p m):=by
 unfold ask
 split
 ·split
  ·trivial
  ·rename_i w' e;have h1:=Xg e;have h2:=NI p m.gs m.rest w'
   split
   ·rename_i m' e2;rw[e2] at h2;have h3:=T0 p m';have h4:m.world.drawn<=m'.world.drawn:=Nt h1 h2;generalize askOn p m'=r at *;cases r with
    | goroutine m i=>exact Nt h4 h3
    | machine s ops=>exact SD.trans h4 h3
   ·exact SD.trans h1 h2
  ·rename_i w' _ e;have h1:=Xg e;have h3:=T0 p { m with world:=w' }
   generalize askOn p { m with world:=w' }=r at *
   cases r with
   | goroutine m i=>exact Nt h1 h3
   | machine s ops=>exact SD.trans h1 h3
 ·exact T0 p m
theorem G8 (p:Program) (m:Machine):MD m.world.drawn (move p m):=by
 unfold move
 split
 ·split
  ·exact Nl _
  ·trivial
 ·split
  ·split
   ·exact Nl _
   ·exact NJ p _
  ·exact NJ p m
theorem G9 {p:Program} {m m':Machine} (h:step p m=.next m'):m.world.drawn<=m'.world.drawn:=by
 unfold step stepT at h;have h1:=G8 p m;generalize move p m=r at *;cases r with
 | goroutine m1 i=>
  have h2:=G7 p m1 i true;simp only at h;rw[h] at h2;exact Nt h1 h2
 | machine s ops=>
  simp only at h;subst h;exact h1
theorem NK (p:Program):∀(n:Nat) {m m':Machine},runN p n m=.next m'->m.world.drawn<=m'.world.drawn
 | 0,m,m',h=>by simp only[runN,Stepped.next.injEq] at h;subst h;exact Nl _
 | n+1,m,m',h=>by
  unfold runN at h
  split at h
  ·rename_i m1 e;exact Nt (G9 e) (NK p n h)
  ·rename_i h2;exact absurd h (h2 _)
theorem JR {p:Program} {m m':Machine} (h:Steps p m m'):m.world.drawn<=m'.world.drawn:=by
 obtain⟨n,h⟩:=h;exact NK p n h
theorem JS {P:Program} {f:FuncId} {args:Array Value} {w:World} {R:Ending->World->Prop} (h:Calls P f args w R) :
  Calls P f args w fun e w'=>R e w'/\∀v,e=.returned v->w.drawn<=w'.drawn:=fun cs=>by
 obtain⟨e,w',fr,hR,hc,h1,h2⟩:=h cs;refine⟨e,w',fr,⟨hR,fun v hv=>?_⟩,hc,h1,h2⟩
 subst hv;exact JR hc
theorem OL {w w':World} (h:RowKit.Below w.heap.size w w') (hd:w.drawn<=w'.drawn):∃q os,w'=Sort.grow (w.drewN q) os:=by
 obtain⟨p,hp⟩:=regrown_of_below h;have hd2:w'.drawn=p.d:=by rw[hp];rfl
 refine⟨p.d-w.drawn,p.os,?_⟩;rw[hp]
 have:redrawn w p.d=w.drewN (p.d-w.drawn):=by
  unfold redrawn World.drewN;congr 1;omega
 rw[this]
theorem calls_grown {P:Program} {f:FuncId} {args:Array Value} {w:World} {v:Value} (h:Calls P f args w fun e w'=>e=.returned v/\RowKit.Below w.heap.size w w') :
  Calls P f args w fun e w'=>e=.returned v/\∃q os,w'=Sort.grow (w.drewN q) os:=
 (JS h).mono fun _ _ ⟨⟨he,hb⟩,hd⟩=>⟨he,OL hb (hd v he)⟩
end Go.Proofs.YtpieeldbamklkaaGreatDoorMono
