/- Texts put together: Po Pr Bm Pu Pv Px. -/
import Derived.Test.YtpieeldbamklkaaGreatDoorY11
import Derived.Deep.CutBlock
set_option maxHeartbeats 16000000
set_option maxRecDepth 100000
open Go.Proofs.Tryz
namespace Go.Proofs.YtpieeldbamklkaaGreatDoor
open Go.RowKit Go.Shelf Num
theorem NP:∀zs:List Int,((zs.map canon).map val).sum=zs.sum
 | []=>rfl
 | z::r=>by simp only[List.map_cons,List.sum_cons,Zh,NP r]
theorem LV:∀(xs:List Lot),(∀x∈xs,0<val x.q)->0<=ZL xs/\(xs≠[]->0<ZL xs)
 | [],_=>⟨by simp[ZL],fun h=>absurd rfl h⟩
 | x::r,h=>by
  have h1:=(LV r (fun y hy=>h y (List.mem_cons_of_mem _ hy))).1
  have h2:=h x List.mem_cons_self;have e:ZL (x::r)=val x.q+ZL r:=by simp[ZL]
  rw[e];exact⟨by omega,fun _=>by omega⟩
theorem Zbo {xs:List Lot} {ins:List UInt8} (hl:YM xs=0) (hne:ofL ins xs≠[]) (Z:Int):TB (canon Z) ((ofL ins xs).map (·.q))=0:=by
 obtain⟨h1,h2,-⟩:=SL hl;have hm:∀x∈ofL ins xs,x∈xs:=fun x hx=>(List.mem_filter.1 hx).1
 have hlen:(ofL ins xs).length<=xs.length:=List.length_filter_le _ _;have hq:∀x∈ofL ins xs,x.q=canon (val x.q)/\0<val x.q:=fun x hx=>by
  obtain⟨-,-,-,-,-,h,-,-,h',-⟩:=Mk (h2 x (hm x hx));exact⟨h,h'⟩
 unfold TB;rw[if_neg (by rw[List.length_map];exact fun e=>hne (List.length_eq_zero_iff.1 e)),if_neg (by rw[List.length_map];omega),if_neg (by rw[Zh];exact fun h=>h rfl),if_neg,if_neg]
 ·have:=(LV _ (fun x hx=>(hq x hx).2)).2 hne
  have e:XJ ((ofL ins xs).map (·.q))=ZL (ofL ins xs):=by
   unfold XJ ZL;rw[List.map_map];rfl
  rw[e];omega
 ·intro h;obtain⟨r,hr,hb⟩:=List.any_eq_true.1 h;obtain⟨x,hx,rfl⟩:=List.mem_map.1 hr;obtain⟨q1,q2⟩:=hq x hx;unfold Ot at hb;simp[<-q1] at hb;omega
theorem OQ {xs:List Lot} {ins:List UInt8} {Z:Int} {ps:List (List UInt8)} (hl:YM xs=0) (hZ:ofL ins xs=[]->Z=0) (h:QZ (canon Z) ((ofL ins xs).map (·.q)) ps):(ps.map val).sum=Z/\(ps=[]↔ofL ins xs=[]):=by
 by_cases hne:ofL ins xs=[]
 ·rcases h with ⟨-,rfl⟩|⟨h,-⟩
  ·exact⟨(hZ hne).symm,⟨fun _=>hne,fun _=>rfl⟩⟩
  ·obtain⟨h1,-⟩:=Tq h;rw[hne] at h1;exact absurd h1 (by simp)
 ·have h0:=Zbo hl hne Z;rcases h with ⟨h,-⟩|⟨-,zs,rfl,hd⟩
  ·exact absurd h0 h
  ·refine⟨by rw[NP,hd.sum.1,Zh],⟨fun e=>?_,fun e=>absurd e hne⟩⟩
   have hz:zs.length=(ofL ins xs).length:=by rw[hd.sum.2,List.length_map,List.length_map]
   rw[List.map_eq_nil_iff] at e;rw[e] at hz;exact List.length_eq_zero_iff.1 hz.symm
theorem AQ (l l':List UInt8):pvZ l l' (canon 0)=0:=by
 unfold pvZ;rw[Zh,show (((0:Int):Rat))=0 from rfl,Rat.mul_zero]
 exact BY 0 1
def Qn (p c:List UInt8):List UInt8:=if val c<val p then c else p
def VG (p:List UInt8) (x:Lot):Lot:={ x with cost:=canon (val x.cost-val (Qn p x.cost)) }
def YF (ins:List UInt8):List (List UInt8)->List Lot->List Lot
 | _,[]=>[]
 | ps,x::r=>if x.ins=ins then VG (ps.headD []) x::YF ins ps.tail r else x::YF ins ps r
def Ug (ins:List UInt8):List (List UInt8)->List Lot->Int
 | _,[]=>0
 | ps,x::r=>if x.ins=ins then val (Qn (ps.headD []) x.cost)+Ug ins ps.tail r else Ug ins ps r
theorem Uh (ins:List UInt8):∀(ps:List (List UInt8)) (xs:List Lot),(YF ins ps xs).length=xs.length
 | _,[]=>rfl
 | ps,x::r=>by
  unfold YF
  split<;>simp[Uh]
theorem Sq (ins:List UInt8):∀(ps:List (List UInt8)) (xs:List Lot),ZL (ofL ins (YF ins ps xs))=ZL (ofL ins xs)/\Yp (ofL ins (YF ins ps xs))+Ug ins ps xs=Yp (ofL ins xs)
 | _,[]=>⟨rfl,rfl⟩
 | ps,x::r=>by
  unfold YF Ug
  by_cases h:x.ins=ins
  ·obtain⟨h1,h2⟩:=Sq ins ps.tail r;rw[if_pos h,if_pos h,Tn h,Tn (x:=VG (ps.headD []) x) h];have e1:∀(y:Lot) (l:List Lot),ZL (y::l)=val y.q+ZL l:=fun y l=>by simp[ZL]
   have e2:∀(y:Lot) (l:List Lot),Yp (y::l)=val y.cost+Yp l:=fun y l=>by simp[Yp]
   have e3:(VG (ps.headD []) x).q=x.q:=rfl;have e4:val (VG (ps.headD []) x).cost=val x.cost-val (Qn (ps.headD []) x.cost):=Zh _;rw[e1,e1,e2,e2,e3,e4];exact⟨by omega,by omega⟩
  ·obtain⟨h1,h2⟩:=Sq ins ps r;rw[if_neg h,if_neg h,Mp h,Mp h];exact⟨h1,h2⟩
def Zcc (w:World) (v:Value):Result Next->Prop
 | .ok (.value u) w'=>w'=w/\u=v
 | _=>False
section
variable {P:Program} {ops:Array Oper} {md:Region.Mode} {C:World->Prop} {K:Act->World->Prop}
def Wm (P:Program) (md:Region.Mode) (ops:Array Oper) (C:World->Prop) (K:Act->World->Prop):Nat->Array Bool->Act->World->Prop
 | 0,listed,a,w=>C w/\Region.ready md ops listed=[]/\K a w
 | fuel+1,listed,a,w=>C w/\(Region.ready md ops listed=[]->K a w)/\
  ∀i∈Region.ready md ops listed,∃o,ops[i]?=some o/\o.guard=none/\o.wp P a w (Wm P md ops C K fuel (listed.setIfInBounds i true)) (YY fun _ _=>False)
theorem D5:∀{fuel:Nat} {listed:Array Bool} {a:Act} {w:World},Wm P md ops C K fuel listed a w->C w
 | 0,_,_,_,h=>h.1
 | _+1,_,_,_,h=>h.1
theorem OR {Q:Exit->Act->World->Prop} (hQ:∀a w,K a w->Q .normal a w):∀(fuel:Nat) (listed:Array Bool) (a:Act) (w:World),Wm P md ops C K fuel listed a w->wpAny P md ops Q fuel listed a w
 | 0,listed,a,w,h=>⟨h.2.1,hQ _ _ h.2.2⟩
 | fuel+1,listed,a,w,h=>⟨fun h0=>hQ _ _ (h.2.1 h0),fun i hi=>by
  obtain⟨o,ho,hg,hw⟩:=h.2.2 i hi;unfold wpOp;simp only[ho,Ya hg,if_true]
  exact .inl (U4 (Oper.wp_mono (fun a' w' h'=>OR hQ fuel _ a' w' h') hw))⟩
theorem put_defers (a:Act) (x:Option Tmp) (v:Value) (q:Deferred):({ a.put x v with defers:=q::(a.put x v).defers }:Act)=({ a with defers:=q::a.defers }:Act).put x v:=by
 cases x<;>rfl
theorem AR {oi oj:Oper} {a:Act} {w:World} {v:Value} {K:Act->World->Prop} (hap:oi.apart ops oj=true) (hsi:∀cs b,oi.op≠.select cs b) (hsj:∀cs b,oj.op≠.select cs b)
  (h:oj.wp P (a.put oi.dst v) w K (YY fun _ _=>False)):oj.wp P a w (fun a' w'=>K (a'.put oi.dst v) w'/\execOp a'.eval oi=execOp a.eval oi) (YY fun _ _=>False):=by
 obtain⟨h1,h2,h3⟩:=Oper.apart_spec hap;unfold Oper.wp at *;rw[execOp_put oj hsj a oi.dst v h1] at h;have key:∀u w',K ((a.put oi.dst v).put oj.dst u) w'->K ((a.put oj.dst u).put oi.dst v) w'/\execOp (a.put oj.dst u).eval oi=execOp a.eval oi:=fun u w' h=>⟨by rw[<-Act.put_comm a v u h2];exact h,execOp_put oi hsi a oj.dst u h3⟩
 generalize (execOp a.eval oj).run P w=r at *;cases r with
 | ok n w'=>
  cases n with
  | value u=>exact key u w' h
  | skip=>exact key undef w' h
  | defer d=>
   have h':K (({ a.put oi.dst v with defers:=d::(a.put oi.dst v).defers }:Act).put oj.dst undef) w':=h
   rw[put_defers] at h';show K ((({ a with defers:=d::a.defers }:Act).put oj.dst undef).put oi.dst v) w'/\execOp (({ a with defers:=d::a.defers }:Act).put oj.dst undef).eval oi=execOp a.eval oi
   refine⟨by rw[<-Act.put_comm _ v undef h2];exact h',?_⟩
   rw[execOp_put oi hsi _ oj.dst undef h3];rfl
  | enter f args=>
   refine Calls.mono h (fun e w'' he=>?_)
   cases e with
   | returned u=>exact key u w'' he
   | panicked c=>exact he
   | outgrown=>exact he
  | row r args=>exact Rows.mono h (fun u w'' he=>key u w'' he)
  | _=>exact h
 | halt x w'=>cases x<;>exact h
theorem gdB {listed:Array Bool} {i:Nat} (h:listed.getD i true=false):listed.getD i false=false:=by
 rcases Nat.lt_or_ge i listed.size with h'|h'
 ·simp[h'] at h ⊢;exact h
 ·simp[Array.getElem?_eq_none h'] at h
theorem MF {i:Nat} {oi:Oper} {v:Value} (hi:ops[i]?=some oi) (hg:oi.guard=none) (hsel:∀(j:Nat) (o:Oper) cs b,ops[j]?=some o->o.op≠.select cs b) :
  ∀(fuel:Nat) (listed:Array Bool) (a:Act) (w:World),
   (∀j oj,ops[j]?=some oj->j≠i->listed.getD j true=false->(∀e∈oj.after,Region.binds md e=true->e.on≠i)->oi.apart ops oj=true)->
   i∈Region.ready md ops listed->C w->(∀w',C w'->Zcc w' v ((execOp a.eval oi).run P w'))->
   Wm P md ops C K fuel (listed.setIfInBounds i true) (a.put oi.dst v) w->Wm P md ops C K (fuel+1) listed a w:=by
 have hself:∀(fuel:Nat) (listed:Array Bool) (a:Act) (w:World),C w->(∀w',C w'->Zcc w' v ((execOp a.eval oi).run P w'))->
   Wm P md ops C K fuel (listed.setIfInBounds i true) (a.put oi.dst v) w->∃o,ops[i]?=some o/\o.guard=none/\o.wp P a w (Wm P md ops C K fuel (listed.setIfInBounds i true)) (YY fun _ _=>False):=by
  intro fuel listed a w hC hy H;refine⟨oi,hi,hg,?_⟩;have h1:=hy w hC;unfold Oper.wp;generalize (execOp a.eval oi).run P w=r at *;cases r with
  | ok n w'=>
   cases n with
   | value u=>
    obtain⟨rfl,rfl⟩:=h1;exact H
   | _=>exact h1.elim
  | halt x w'=>exact h1.elim
 intro fuel
 induction fuel with
 | zero=>
  intro listed a w _ hr hC hy H;refine⟨hC,fun h=>(by rw[h] at hr;cases hr),fun j hj=>?_⟩
  by_cases hji:j=i
  ·subst hji;exact hself 0 listed a w hC hy H
  ·have:=ready_mono hj hji
   rw[H.2.1] at this;cases this
 | succ fuel ih=>
  intro listed a w hfree hr hC hy H;refine⟨hC,fun h=>(by rw[h] at hr;cases hr),fun j hj=>?_⟩
  by_cases hji:j=i
  ·subst hji;exact hself (fuel+1) listed a w hC hy H
  ·obtain⟨oj,hoj,hgj,h1⟩:=H.2.2 j (ready_mono hj hji);obtain⟨hjun,oj',hoj',hall⟩:=mem_ready.1 hj;have e:oj'=oj:=by rw[hoj] at hoj';injection hoj' with h;exact h.symm
   subst e;have hnot:∀e∈oj'.after,Region.binds md e=true->e.on≠i:=fun e he hb heq=>by
    have h1:=hall e he hb;have h0:=(mem_ready.1 hr).1;rw[heq] at h1;rw[gdB h0] at h1;cases h1
   have hap:=hfree j oj' hoj hji hjun hnot;refine⟨oj',hoj,hgj,Oper.wp_mono (fun a' w' h2=>?_) (AR hap (fun cs b=>hsel i oi cs b hi) (fun cs b=>hsel j oj' cs b hoj) h1)⟩
   obtain⟨h2,h3⟩:=h2;have hfree':∀k ok,ops[k]?=some ok->k≠i->(listed.setIfInBounds j true).getD k true=false->
     (∀e∈ok.after,Region.binds md e=true->e.on≠i)->oi.apart ops ok=true:=fun k ok hk hki hun hno=>by
    refine hfree k ok hk hki ?_ hno
    by_cases hjk:j=k
    ·subst hjk;exact hjun
    ·rw[getD_set_ne true hjk] at hun;exact hun
   rw[Array.setIfInBounds_comm _ _ (Ne.symm hji)] at h2;exact ih _ a' w' hfree' (ready_mono hr (Ne.symm hji)) (D5 h2) (fun w' hw=>by rw[h3];exact hy w' hw) h2
theorem ZK (i:Nat) {oi:Oper} {v:Value} {fuel:Nat} {listed:Array Bool} {a:Act} {w:World} (hs:Region.noSelect ops=true) (hi:ops.toList[i]?=some oi) (hg:oi.guard=none) (hb:(Region.free md ops listed i&&(Region.ready md ops listed).contains i)=true)
  (hC:C w) (hy:∀w',C w'->(execOp a.eval oi).run P w'=.ok (.value v) w') (h:Wm P md ops C K fuel (listed.setIfInBounds i true) (a.put oi.dst v) w):Wm P md ops C K (fuel+1) listed a w:=by
 rw[Bool.and_eq_true] at hb;rw[Array.getElem?_toList] at hi;exact MF hi hg (Region.noSelect_spec hs) fuel listed a w (Region.free_spec hi hb.1) (by simpa using hb.2) hC (fun w' hw=>by rw[hy w' hw];exact⟨rfl,rfl⟩) h
theorem Q4 (i:Nat) {o:Oper} {fuel:Nat} {listed:Array Bool} {a:Act} {w:World} (hr:Region.ready md ops listed=[i]) (ho:ops.toList[i]?=some o) (hg:o.guard=none) (hC:C w)
  (h:∀K2:Act->World->Prop,(∀a' w',Wm P md ops C K fuel (listed.setIfInBounds i true) a' w'->K2 a' w')->wpList P ops (YY K2) [o] a w):Wm P md ops C K (fuel+1) listed a w:=by
 rw[Array.getElem?_toList] at ho;refine⟨hC,fun h0=>(by rw[hr] at h0;cases h0),fun j hj=>?_⟩
 rw[hr] at hj;have hji:j=i:=by simpa using hj
 subst hji;refine⟨o,ho,hg,?_⟩;replace h:=h _ (fun _ _ h=>h)
 unfold wpList at h;simp only[Ya hg,if_true] at h;rcases h with h|⟨-,a',w',h,-⟩
 ·exact Oper.wp_mono2 (fun a' w' h=>h.2) (fun _ _ _ h=>(by cases h.1)) (fun h=>(by obtain⟨_,_,h,_⟩:=h;cases h)) h
 ·cases h
theorem J4 {listed:Array Bool} {a:Act} {w:World} (hr:Region.ready md ops listed=[]) (hC:C w) (h:K a w):Wm P md ops C K 0 listed a w:=⟨hC,hr,h⟩
theorem Hn {K:Act->World->Prop} {a:Act} {w:World} (h:K a w):YY K .normal a w:=⟨rfl,h⟩
end
theorem MG {P:Program} {Q:Exit->Act->World->Prop} {id n:Nat} {a:Act} {w:World} {L:List Oper} (C:World->Prop) (hne:L≠[]) (hm:P.follows .mixedOrders=true) (hU:YE .any L.dropLast (L.getLast hne)=true) (hg:L.all (fun o=>o.guard.isNone)=true) (hn:L.dropLast.length=n)
  (h:∀wd,Below w.heap.size w wd->Wm P .any L.dropLast.toArray C (fun a w=>wpList P L.toArray Q [L.getLast hne] a w) n (Array.replicate n false) a wd):(Code.region id L.toArray true).wp P Q a w:=by
 subst hn;have e2:L.dropLast++[L.getLast hne]=L:=List.dropLast_concat_getLast hne;have hgs:∀o∈L,o.guard=none:=fun o ho=>by
  have:=(List.all_eq_true.1 hg) o ho
  simpa using this
 refine wp_region_any hm ?_;have h1:=OR (P:=P) (Q:=Exit.then (wpList P L.toArray Q [L.getLast hne]) Q) (fun _ _ h=>h) _ _ _ _ (h { w with drawn:=w.drawn+1 } ⟨rfl,rfl,rfl,Nl _,fun _ _=>rfl⟩)
 have h4:=Vu (P:=P) (md:=.any) (Q:=Q) hU (hgs _ (List.getLast_mem hne)) (fun o ho=>hgs o (List.dropLast_subset L ho)) L.dropLast.length (Array.replicate (L.dropLast.length+1) false) (Array.replicate L.dropLast.length false) a { w with drawn:=w.drawn+1 } (by simpa using Vv L.dropLast (L.getLast hne)) (by rw[e2];exact h1)
 rw[e2] at h4;have hs:L.toArray.size=L.dropLast.length+1:=by
  have:=congrArg List.length e2
  simp at this ⊢;omega
 rw[hs];exact h4
theorem Xf {w w':World} {B k sz:Nat} {ty:TypeId} {v:Value} {cs:List Value} (h:w.ownsRow B ty sz v k cs) (hb:∀b,v.ownBlock=some b->w'.heap[b]?=w.heap[b]?):w'.ownsRow B ty sz v k cs:=by
 refine⟨h.1,?_⟩;rcases h.2 with h2|⟨g,cap,cur,e,hB,hg,r⟩
 ·exact .inl h2
 ·exact .inr ⟨g,cap,cur,e,hB,(hb g (by rw[e];rfl)).trans hg,r⟩
theorem Blk.keep {w w':World} {b:Nat} {cs:Array Value} (h:Blk w b cs) (hb:w'.heap[b]?=w.heap[b]?):Blk w' b cs:=by
 obtain⟨t,h⟩:=h;exact⟨t,hb.trans h⟩
theorem Vy.keep {w w':World} {A:Option Addr} {ps:List (List UInt8)} (h:Vy w A ps) (hs:w.heap.size<=w'.heap.size) (hb:∀b o,A=some ⟨b,o,none⟩->w'.heap[b]?=w.heap[b]?):Vy w' A ps:=fun i r hr=>by
 obtain⟨b,o,rfl,h1,h2⟩:=h i r hr;refine⟨b,o,rfl,Nat.lt_of_lt_of_le h1 hs,?_⟩;have e:=hb b o rfl;have q:∀k,w'.cell? ⟨b,k,none⟩=w.cell? ⟨b,k,none⟩:=fun k=>by simp[World.cell?,e]
 exact (q _).trans h2
structure XO (w:World) (bp bg bo bf B:Nat) (AP:Option Addr):Prop where
 p:w.heap.size<=bp/\bp<B/\bp≠bg/\bp≠bo
 f:w.heap.size<=bf/\bf<B/\bf≠bg/\bf≠bo
 g:w.heap.size<=bg/\bg<B
 o:w.heap.size<=bo/\bo<B/\bg≠bo
 a:∀b o,AP=some ⟨b,o,none⟩->b<B/\b≠bg/\b≠bo
def Zbp (v1 v2:Value):Array Value:=#[.slice none 0 0,v1,v2,.slice none 0 0]
structure ZR (w:World) (bp bg bo bf B:Nat) (AP:Option Addr) (np cq:Nat) (ps:List (List UInt8)) (f:Fct) (j1 j2:Nat) (G:Int) (v1 v2:Value) (W:World):Prop where
 below:Below w.heap.size w W
 par:Blk W bp #[.slice AP np cq]
 sts:Vy W AP ps
 giv:Blk W bg #[.string ⟨List.toArray (canon G)⟩]
 out:Blk W bo (Zbp v1 v2)
 fct:Blk W bf (Zi f)
 o1:∃n cs,n<=j1/\W.ownsRow B 89 10 v1 n cs
 o2:∃n cs,n<=j2/\W.ownsRow B 136 6 v2 n cs
 dis:Dis v1 v2
 big:B<=W.heap.size
structure Xv (B bg bo:Nat) (W W':World):Prop where
 size:W.heap.size<=W'.heap.size
 block:∀b,b<B->b≠bg->b≠bo->W'.heap[b]?=W.heap[b]?
theorem Xv.trans {B bg bo:Nat} {W W' W'':World} (h:Xv B bg bo W W') (h':Xv B bg bo W' W''):Xv B bg bo W W'':=⟨Nt h.size h'.size,fun b h1 h2 h3=>(h'.block b h1 h2 h3).trans (h.block b h1 h2 h3)⟩
section
variable {w:World} {bp bg bo bf B:Nat} {AP:Option Addr} {np cq:Nat} {ps:List (List UInt8)} {f:Fct} {j1 j2:Nat} {G:Int} {v1 v2:Value} {W W':World}
theorem ZR.r1 (h:ZR w bp bg bo bf B AP np cq ps f j1 j2 G v1 v2 W):∀k,v1.ownBlock=some k->B<=k/\k<W.heap.size:=fun k hk=>by
 obtain⟨n,cs,-,ho⟩:=h.o1;exact World.ownsRow.lt ho k hk
theorem ZR.r2 (h:ZR w bp bg bo bf B AP np cq ps f j1 j2 G v1 v2 W):∀k,v2.ownBlock=some k->B<=k/\k<W.heap.size:=fun k hk=>by
 obtain⟨n,cs,-,ho⟩:=h.o2;exact World.ownsRow.lt ho k hk
theorem ZR.keep (K:XO w bp bg bo bf B AP) (h:ZR w bp bg bo bf B AP np cq ps f j1 j2 G v1 v2 W) (hb:Below w.heap.size w W') (hs:W.heap.size<=W'.heap.size) (hold:∀b,b<W.heap.size->(b<B∨v1.ownBlock=some b∨v2.ownBlock=some b)->W'.heap[b]?=W.heap[b]?):ZR w bp bg bo bf B AP np cq ps f j1 j2 G v1 v2 W':=by
 have hl:∀b,b<B->W'.heap[b]?=W.heap[b]?:=fun b hlt=>hold b (Nat.lt_of_lt_of_le hlt h.big) (.inl hlt)
 refine⟨hb,h.par.keep (hl _ K.p.2.1),h.sts.keep hs (fun b o e=>hl b (K.a b o e).1),h.giv.keep (hl _ K.g.2),h.out.keep (hl _ K.o.2.1),h.fct.keep (hl _ K.f.2.1),?_,?_,h.dis,Nt h.big hs⟩
 ·obtain⟨n,cs,hn,ho⟩:=h.o1;exact⟨n,cs,hn,Xf ho (fun b e=>hold b (h.r1 b e).2 (.inr (.inl e)))⟩
 ·obtain⟨n,cs,hn,ho⟩:=h.o2;exact⟨n,cs,hn,Xf ho (fun b e=>hold b (h.r2 b e).2 (.inr (.inr e)))⟩
theorem ZR.mono (K:XO w bp bg bo bf B AP) (h:ZR w bp bg bo bf B AP np cq ps f j1 j2 G v1 v2 W) (hb:Below W.heap.size W W'):ZR w bp bg bo bf B AP np cq ps f j1 j2 G v1 v2 W':=
 h.keep K (bto h.below hb) hb.size (fun b hlt _=>hb.block b hlt)
theorem ZR.up {i1 i2:Nat} (h:ZR w bp bg bo bf B AP np cq ps f j1 j2 G v1 v2 W) (h1:j1<=i1) (h2:j2<=i2):ZR w bp bg bo bf B AP np cq ps f i1 i2 G v1 v2 W:=
 ⟨h.below,h.par,h.sts,h.giv,h.out,h.fct,h.o1.imp fun n ⟨cs,hn,h⟩=>⟨cs,by omega,h⟩,h.o2.imp fun n ⟨cs,hn,h⟩=>⟨cs,by omega,h⟩,h.dis,h.big⟩
theorem ZR.give (K:XO w bp bg bo bf B AP) (h:ZR w bp bg bo bf B AP np cq ps f j1 j2 G v1 v2 W) (G':Int):ZR w bp bg bo bf B AP np cq ps f j1 j2 G' v1 v2 (W.setCell ⟨bg,0,none⟩ (.string ⟨List.toArray (canon G')⟩)):=by
 obtain⟨t,hg⟩:=h.giv;have ht:=Wt W bg 0 _ (.string ⟨List.toArray (canon G')⟩) t hg;have hl:∀b,b≠bg->(W.setCell ⟨bg,0,none⟩ (.string ⟨List.toArray (canon G')⟩)).heap[b]?=W.heap[b]?:=ht.old
 have hkg:=K.g.2;refine⟨Yv h.below K.g.1 0 _,h.par.keep (hl _ K.p.2.2.1),h.sts.keep (by rw[ht.size];exact Nl _) (fun b o e=>hl b (K.a b o e).2.1),⟨t,ht.new⟩,h.out.keep (hl _ (Ne.symm K.o.2.2)),h.fct.keep (hl _ K.f.2.2.1),?_,?_,h.dis,by rw[ht.size];exact h.big⟩
 ·obtain⟨n,cs,hn,ho⟩:=h.o1;exact⟨n,cs,hn,Xf ho (fun b e=>hl b (by have:=(h.r1 b e).1;omega))⟩
 ·obtain⟨n,cs,hn,ho⟩:=h.o2;exact⟨n,cs,hn,Xf ho (fun b e=>hl b (by have:=(h.r2 b e).1;omega))⟩
theorem Ho {w w':World} {B k sz:Nat} {ty:TypeId} {u v:Value} {cs:List Value} (h:w.ownsRow B ty sz v k cs) (hg:w.grownBy w' u.ownBlock) (hd:∀g,v.ownBlock=some g->u.ownBlock≠some g):w'.ownsRow B ty sz v k cs:=World.ownsRow.kept h hg (by
 cases hv:v.ownBlock with
 | none=>exact .inl rfl
 | some g=>exact .inr (fun e=>hd g hv e.symm))
theorem ZR.gain (K:XO w bp bg bo bf B AP) (h:ZR w bp bg bo bf B AP np cq ps f j1 j2 G v1 v2 W) {n:Nat} {cs:List Value} {v1':Value} (hn:n<=j1) (ho:W'.ownsRow B 89 10 v1' (n+1) cs) (hg:W.grownBy W' v1.ownBlock) (hf:∀k,v1'.ownBlock=some k->v1.ownBlock=some k∨W.heap.size<=k) :
  ZR w bp bg bo bf B AP np cq ps f (j1+1) j2 G v1' v2 (W'.setCell ⟨bo,1,none⟩ v1')/\∀b,b<B->b≠bo->(W'.setCell ⟨bo,1,none⟩ v1').heap[b]?=W.heap[b]?:=by
 have hl:∀b,b<W.heap.size->v1.ownBlock≠some b->W'.heap[b]?=W.heap[b]?:=fun b h1 h2=>hg.block b h1 (fun e=>h2 e.symm)
 have hB:∀b,b<B->W'.heap[b]?=W.heap[b]?:=fun b hb=>hl b (Nat.lt_of_lt_of_le hb h.big) (fun e=>by have:=(h.r1 b e).1;omega)
 obtain⟨t,hout⟩:=h.out.keep (hB _ K.o.2.1);have ht:=Wt W' bo 1 _ v1' t hout;have hlo:∀b,b<B->b≠bo->(W'.setCell ⟨bo,1,none⟩ v1').heap[b]?=W.heap[b]?:=fun b h1 h2=>(ht.old b h2).trans (hB b h1)
 have hb1:Below w.heap.size w W':=h.below.grown hg h.below.size (fun k hk=>by have:=(h.r1 k hk).1;have:=K.o;omega)
 have hko:=K.o.2.1;refine⟨⟨Yv hb1 K.o.1 1 _,h.par.keep (hlo _ K.p.2.1 K.p.2.2.2),h.sts.keep (by rw[ht.size];exact hg.size) (fun b o e=>hlo b (K.a b o e).1 (K.a b o e).2.2),h.giv.keep (hlo _ K.g.2 K.o.2.2),⟨t,ht.new⟩,h.fct.keep (hlo _ K.f.2.1 K.f.2.2.2),⟨n+1,cs,by omega,Xf ho (fun b e=>ht.old b ?_)⟩,?_,?_,by rw[ht.size];exact Nt h.big hg.size⟩,hlo⟩
 ·have:=(World.ownsRow.lt ho b e).1;omega
 ·obtain⟨m,cs2,hm,ho2⟩:=h.o2;exact⟨m,cs2,hm,Xf (Ho ho2 hg (fun g e1 e2=>h.dis g e2 e1)) (fun b e=>ht.old b (by have:=(h.r2 b e).1;omega))⟩
 ·intro g e1 e2;rcases hf g e1 with e|e
  ·exact h.dis g e e2
  ·have:=(h.r2 g e2).2;omega
theorem ZR.step (K:XO w bp bg bo bf B AP) (h:ZR w bp bg bo bf B AP np cq ps f j1 j2 G v1 v2 W) {n:Nat} {cs:List Value} {v2':Value} (hn:n<=j2) (ho:W'.ownsRow B 136 6 v2' (n+1) cs) (hg:W.grownBy W' v2.ownBlock) (hf:∀k,v2'.ownBlock=some k->v2.ownBlock=some k∨W.heap.size<=k) :
  ZR w bp bg bo bf B AP np cq ps f j1 (j2+1) G v1 v2' (W'.setCell ⟨bo,2,none⟩ v2')/\∀b,b<B->b≠bo->(W'.setCell ⟨bo,2,none⟩ v2').heap[b]?=W.heap[b]?:=by
 have hl:∀b,b<W.heap.size->v2.ownBlock≠some b->W'.heap[b]?=W.heap[b]?:=fun b h1 h2=>hg.block b h1 (fun e=>h2 e.symm)
 have hB:∀b,b<B->W'.heap[b]?=W.heap[b]?:=fun b hb=>hl b (Nat.lt_of_lt_of_le hb h.big) (fun e=>by have:=(h.r2 b e).1;omega)
 obtain⟨t,hout⟩:=h.out.keep (hB _ K.o.2.1);have ht:=Wt W' bo 2 _ v2' t hout;have hlo:∀b,b<B->b≠bo->(W'.setCell ⟨bo,2,none⟩ v2').heap[b]?=W.heap[b]?:=fun b h1 h2=>(ht.old b h2).trans (hB b h1)
 have hb1:Below w.heap.size w W':=h.below.grown hg h.below.size (fun k hk=>by have:=(h.r2 k hk).1;have:=K.o;omega)
 have hko:=K.o.2.1;refine⟨⟨Yv hb1 K.o.1 2 _,h.par.keep (hlo _ K.p.2.1 K.p.2.2.2),h.sts.keep (by rw[ht.size];exact hg.size) (fun b o e=>hlo b (K.a b o e).1 (K.a b o e).2.2),h.giv.keep (hlo _ K.g.2 K.o.2.2),⟨t,ht.new⟩,h.fct.keep (hlo _ K.f.2.1 K.f.2.2.2),?_,⟨n+1,cs,by omega,Xf ho (fun b e=>ht.old b ?_)⟩,?_,by rw[ht.size];exact Nt h.big hg.size⟩,hlo⟩
 ·obtain⟨m,cs1,hm,ho1⟩:=h.o1;exact⟨m,cs1,hm,Xf (Ho ho1 hg (fun g e1 e2=>h.dis g e1 e2)) (fun b e=>ht.old b (by have:=(h.r1 b e).1;omega))⟩
 ·have:=(World.ownsRow.lt ho b e).1;omega
 ·intro g e1 e2;rcases hf g e2 with e|e
  ·exact h.dis g e1 e
  ·have:=(h.r1 g e1).2;omega
structure Xw (w:World) (bp bg bo bf B:Nat) (AP:Option Addr) (np cq:Nat) (ps:List (List UInt8)) (f:Fct) (W0:World) (x:Lot) (j1 j2:Nat) (G:Int) (v1 v2:Value) (W:World):Prop where
 v:ZR w bp bg bo bf B AP np cq ps f j1 j2 G v1 v2 W
 off1:∀k,v1.ownBlock=some k->k≠W0.heap.size/\k≠W0.heap.size+1
 off2:∀k,v2.ownBlock=some k->k≠W0.heap.size/\k≠W0.heap.size+1
 box:Blk W W0.heap.size #[.string ⟨x.id.toArray⟩,.string ⟨x.ins.toArray⟩,.int .i64 x.acq,.int .i64 x.opn,.string ⟨x.q.toArray⟩,.string ⟨x.cost.toArray⟩,.string ⟨x.used.toArray⟩]
 res:Blk W (W0.heap.size+1) #[.string ⟨#[]⟩,.string ⟨#[]⟩,.int .i64 0,.int .i64 0,.string ⟨#[]⟩,.string ⟨#[]⟩,.string ⟨#[]⟩]
 lo:B<=W0.heap.size
 keep:Xv B bg bo W0 W
def Zax (w:World) (bp bg bo bf B:Nat) (AP:Option Addr) (np cq:Nat) (ps:List (List UInt8)) (f:Fct) (W0:World) (x:Lot) (j1 j2:Nat) (G:Int) (W:World):Prop:=∃v1 v2,Xw w bp bg bo bf B AP np cq ps f W0 x j1 j2 G v1 v2 W
variable {W0:World} {x:Lot}
theorem Xw.mono (K:XO w bp bg bo bf B AP) (h:Xw w bp bg bo bf B AP np cq ps f W0 x j1 j2 G v1 v2 W) (hb:Below W.heap.size W W'):Xw w bp bg bo bf B AP np cq ps f W0 x j1 j2 G v1 v2 W':=
 ⟨h.v.mono K hb,h.off1,h.off2,h.box.below hb,h.res.below hb,h.lo,h.keep.trans ⟨hb.size,fun b h1 _ _=>hb.block b (Nat.lt_of_lt_of_le h1 h.v.big)⟩⟩
theorem Xw.give (K:XO w bp bg bo bf B AP) (h:Xw w bp bg bo bf B AP np cq ps f W0 x j1 j2 G v1 v2 W) (G':Int):Xw w bp bg bo bf B AP np cq ps f W0 x j1 j2 G' v1 v2 (W.setCell ⟨bg,0,none⟩ (.string ⟨List.toArray (canon G')⟩)):=by
 obtain⟨t,hg⟩:=h.v.giv;have ht:=Wt W bg 0 _ (.string ⟨List.toArray (canon G')⟩) t hg;have hkg:=K.g.2;have hlo:=h.lo;exact⟨h.v.give K G',h.off1,h.off2,h.box.keep (ht.old _ (by omega)),h.res.keep (ht.old _ (by omega)),h.lo,h.keep.trans ⟨by rw[ht.size];exact Nl _,fun b _ h2 _=>ht.old b h2⟩⟩
theorem Xw.gain (K:XO w bp bg bo bf B AP) (h:Xw w bp bg bo bf B AP np cq ps f W0 x j1 j2 G v1 v2 W) {n:Nat} {cs:List Value} {v1':Value} (hn:n<=j1) (ho:W'.ownsRow B 89 10 v1' (n+1) cs) (hg:W.grownBy W' v1.ownBlock) (hf:∀k,v1'.ownBlock=some k->v1.ownBlock=some k∨W.heap.size<=k) :
  Xw w bp bg bo bf B AP np cq ps f W0 x (j1+1) j2 G v1' v2 (W'.setCell ⟨bo,1,none⟩ v1'):=by
 obtain⟨h1,h2⟩:=h.v.gain K hn ho hg hf;obtain⟨t,hout⟩:=h.v.out;have hko:=K.o.2.1;have hlo:=h.lo;have l1:=h.res.lt;have hb:∀b,B<=b->b<W.heap.size->v1.ownBlock≠some b->(W'.setCell ⟨bo,1,none⟩ v1').heap[b]?=W.heap[b]?:=fun b h1 h2 h3=>by
  have e1:=hg.block b h2 (fun e=>h3 e.symm)
  rw[<-e1];show (W'.heap.modify bo _)[b]?=_;rw[Array.getElem?_modify,if_neg (by omega)]
 refine⟨h1,fun k hk=>?_,h.off2,h.box.keep (hb _ hlo (by omega) (fun e=>(h.off1 _ e).1 rfl)),h.res.keep (hb _ (by omega) l1 (fun e=>(h.off1 _ e).2 rfl)),h.lo,h.keep.trans ⟨?_,fun b h3 _ h4=>h2 b h3 h4⟩⟩
 ·rcases hf k hk with e|e
  ·exact h.off1 k e
  ·omega
 ·have:=hg.size
  simpa using this
theorem Xw.step (K:XO w bp bg bo bf B AP) (h:Xw w bp bg bo bf B AP np cq ps f W0 x j1 j2 G v1 v2 W) {n:Nat} {cs:List Value} {v2':Value} (hn:n<=j2) (ho:W'.ownsRow B 136 6 v2' (n+1) cs) (hg:W.grownBy W' v2.ownBlock) (hf:∀k,v2'.ownBlock=some k->v2.ownBlock=some k∨W.heap.size<=k) :
  Xw w bp bg bo bf B AP np cq ps f W0 x j1 (j2+1) G v1 v2' (W'.setCell ⟨bo,2,none⟩ v2'):=by
 obtain⟨h1,h2⟩:=h.v.step K hn ho hg hf;have hko:=K.o.2.1;have hlo:=h.lo;have l1:=h.res.lt;have hb:∀b,B<=b->b<W.heap.size->v2.ownBlock≠some b->(W'.setCell ⟨bo,2,none⟩ v2').heap[b]?=W.heap[b]?:=fun b h1 h2 h3=>by
  have e1:=hg.block b h2 (fun e=>h3 e.symm)
  rw[<-e1];show (W'.heap.modify bo _)[b]?=_;rw[Array.getElem?_modify,if_neg (by omega)]
 refine⟨h1,h.off1,fun k hk=>?_,h.box.keep (hb _ hlo (by omega) (fun e=>(h.off2 _ e).1 rfl)),h.res.keep (hb _ (by omega) l1 (fun e=>(h.off2 _ e).2 rfl)),h.lo,h.keep.trans ⟨?_,fun b h3 _ h4=>h2 b h3 h4⟩⟩
 ·rcases hf k hk with e|e
  ·exact h.off2 k e
  ·omega
 ·have:=hg.size
  simpa using this
theorem Xw.start (K:XO w bp bg bo bf B AP) (h:ZR w bp bg bo bf B AP np cq ps f j1 j2 G v1 v2 W) (x:Lot):Xw w bp bg bo bf B AP np cq ps f W x j1 j2 G v1 v2 ((W.alloc (.cells #[.string ⟨x.id.toArray⟩,.string ⟨x.ins.toArray⟩,.int .i64 x.acq,.int .i64 x.opn,.string ⟨x.q.toArray⟩,.string ⟨x.cost.toArray⟩,.string ⟨x.used.toArray⟩] 130)).alloc (.cells #[.string ⟨#[]⟩,.string ⟨#[]⟩,.int .i64 0,.int .i64 0,.string ⟨#[]⟩,.string ⟨#[]⟩,.string ⟨#[]⟩] 130)):=by
 obtain⟨h1,h2,h3,-⟩:=VH W (.cells #[.string ⟨x.id.toArray⟩,.string ⟨x.ins.toArray⟩,.int .i64 x.acq,.int .i64 x.opn,.string ⟨x.q.toArray⟩,.string ⟨x.cost.toArray⟩,.string ⟨x.used.toArray⟩] 130) (.cells #[.string ⟨#[]⟩,.string ⟨#[]⟩,.int .i64 0,.int .i64 0,.string ⟨#[]⟩,.string ⟨#[]⟩,.string ⟨#[]⟩] 130);exact⟨h.mono K h3,fun k hk=>by have:=(h.r1 k hk).2;omega,fun k hk=>by have:=(h.r2 k hk).2;omega,⟨_,h1⟩,⟨_,h2⟩,h.big,h3.size,fun b hb _ _=>h3.block b (Nat.lt_of_lt_of_le hb h.big)⟩
theorem Xw.done (K:XO w bp bg bo bf B AP) (h:Xw w bp bg bo bf B AP np cq ps f W0 x j1 j2 G v1 v2 W) (hs:W'.heap.size=W.heap.size) (hb:∀b,b≠W0.heap.size->b≠W0.heap.size+1->W'.heap[b]?=W.heap[b]?) (hB:Below w.heap.size w W'):ZR w bp bg bo bf B AP np cq ps f j1 j2 G v1 v2 W'/\Xv B bg bo W0 W':=by
 have hlo:=h.lo;refine⟨h.v.keep K hB (by omega) (fun b hl hc=>hb b ?_ ?_),h.keep.trans ⟨by omega,fun b h1 _ _=>hb b (by omega) (by omega)⟩⟩
 ·rcases hc with hc|hc|hc
  ·omega
  ·exact (h.off1 b hc).1
  ·exact (h.off2 b hc).1
 ·rcases hc with hc|hc|hc
  ·omega
  ·exact (h.off1 b hc).2
  ·exact (h.off2 b hc).2
end
def Zay (w:World) (bp bg bo bf B:Nat) (AP:Option Addr) (np cq:Nat) (ps:List (List UInt8)) (f:Fct) (j:Nat) (G:Int) (W:World):Prop:=∃v1 v2,ZR w bp bg bo bf B AP np cq ps f j j G v1 v2 W
theorem Xw.gr {w:World} {bp bg bo bf B:Nat} {AP:Option Addr} {np cq:Nat} {ps:List (List UInt8)} {f:Fct} {W0 W W':World} {x:Lot} {j1 j2:Nat} {G:Int} {v1 v2 v:Value} (h:Xw w bp bg bo bf B AP np cq ps f W0 x j1 j2 G v1 v2 W) (hg:W.grownBy W' v.ownBlock) (hv:v=v1∨v=v2):∀b,(b<B∨b=W0.heap.size)->W'.heap[b]?=W.heap[b]?:=fun b hb=>by
 have hlo:=h.lo;have l1:=h.res.lt;have hbig:=h.v.big;refine hg.block b (by omega) (fun e=>?_)
 rcases hv with rfl|rfl
 ·have:=(h.v.r1 b e.symm).1
  have:=(h.off1 b e.symm).1
  omega
 ·have:=(h.v.r2 b e.symm).1
  have:=(h.off2 b e.symm).1
  omega
theorem Vm {w:World} {B n sz:Nat} {ty:TypeId} {v:Value} {cs:List Value} (h:w.ownsRow B ty sz v n cs):∃A c,v=.slice A n c:=by
 rcases h.2 with ⟨e,hn⟩|⟨g,cap,cur,e,-⟩
 ·exact⟨none,0,by rw[e,hn]⟩
 ·exact⟨_,_,e⟩
theorem AS (a b:Int):0<Zy a b↔b<a:=by unfold Zy;split<;>(try split)<;>omega
def AU (bf xb bp bo b o j:Nat) (AP:Option Addr) (np cq:Nat) (f:Fct) (x:Lot) (p:List UInt8) (v1 v2:Value) (w:World):Prop:=Blk w bf (Zi f)/\Blk w xb #[.string ⟨x.id.toArray⟩,.string ⟨x.ins.toArray⟩,.int .i64 x.acq,.int .i64 x.opn,.string ⟨x.q.toArray⟩,.string ⟨x.cost.toArray⟩,.string ⟨x.used.toArray⟩]/\Blk w bp #[.slice AP np cq]/\w.cell? ⟨b,o+j,none⟩=some (.string ⟨p.toArray⟩)/\Blk w bo (Zbp v1 v2)
theorem AV {w W:World} {bp bg bo bf B:Nat} {AP:Option Addr} {np cq:Nat} {ps:List (List UInt8)} {f:Fct} {j i:Nat} {G:Int} {x:Lot} {p:List UInt8} (hG:GE w) (K:XO w bp bg bo bf B AP) (h:Zay w bp bg bo bf B AP np cq ps f i G W) (hp:ps[j]?=some p) (hpl:p.length<=10000) (hx:x.cost.length<=1000) (hGl:(canon G).length<=200000) (hjn:j<np) (hj:i<=100000) :
  Calls prog 63 #[.int .i64 (j:Int),(Value.agg #[.string ⟨x.id.toArray⟩,.string ⟨x.ins.toArray⟩,.int .i64 x.acq,.int .i64 x.opn,.string ⟨x.q.toArray⟩,.string ⟨x.cost.toArray⟩,.string ⟨x.used.toArray⟩]),.pointer (some ⟨bp,0,none⟩),.pointer (some ⟨bg,0,none⟩),.pointer (some ⟨bo,0,none⟩),.pointer (some ⟨bf,0,none⟩)] W fun e W'=>e=.returned (Value.agg #[.string ⟨List.toArray (VG p x).id⟩,.string ⟨List.toArray (VG p x).ins⟩,.int .i64 (VG p x).acq,.int .i64 (VG p x).opn,.string ⟨List.toArray (VG p x).q⟩,.string ⟨List.toArray (VG p x).cost⟩,.string ⟨List.toArray (VG p x).used⟩])/\Zay w bp bg bo bf B AP np cq ps f (i+1) (G+val (Qn p x.cost)) W'/\Xv B bg bo W W':=by
 obtain⟨v1,v2,h⟩:=h;obtain⟨b,o,rfl,-,-⟩:=h.sts j p hp;have h1:=Xw.start K h x;have HK:=Lh K;have HP:=Lh hp;have HGL:=Lh hGl;have q2:((W.alloc (.cells #[.string ⟨x.id.toArray⟩,.string ⟨x.ins.toArray⟩,.int .i64 x.acq,.int .i64 x.opn,.string ⟨x.q.toArray⟩,.string ⟨x.cost.toArray⟩,.string ⟨x.used.toArray⟩] 130)).alloc (.cells #[.string ⟨#[]⟩,.string ⟨#[]⟩,.int .i64 0,.int .i64 0,.string ⟨#[]⟩,.string ⟨#[]⟩,.string ⟨#[]⟩] 130)).cell? ⟨bp,0,none⟩=some (.slice (some ⟨b,o,none⟩) np cq):=h1.v.par.c 0;have qp:((W.alloc (.cells #[.string ⟨x.id.toArray⟩,.string ⟨x.ins.toArray⟩,.int .i64 x.acq,.int .i64 x.opn,.string ⟨x.q.toArray⟩,.string ⟨x.cost.toArray⟩,.string ⟨x.used.toArray⟩] 130)).alloc (.cells #[.string ⟨#[]⟩,.string ⟨#[]⟩,.int .i64 0,.int .i64 0,.string ⟨#[]⟩,.string ⟨#[]⟩,.string ⟨#[]⟩] 130)).cell? ⟨b,o+j,none⟩=some (.string ⟨p.toArray⟩):=by
  obtain⟨b',o',e,-,h2⟩:=h1.v.sts j p hp;cases e;exact h2
 have q5:((W.alloc (.cells #[.string ⟨x.id.toArray⟩,.string ⟨x.ins.toArray⟩,.int .i64 x.acq,.int .i64 x.opn,.string ⟨x.q.toArray⟩,.string ⟨x.cost.toArray⟩,.string ⟨x.used.toArray⟩] 130)).alloc (.cells #[.string ⟨#[]⟩,.string ⟨#[]⟩,.int .i64 0,.int .i64 0,.string ⟨#[]⟩,.string ⟨#[]⟩,.string ⟨#[]⟩] 130)).cell? ⟨W.heap.size,5,none⟩=some (.string ⟨x.cost.toArray⟩):=h1.box.c 5;obtain⟨c,hc⟩:∃c,c=Zy (val p) (val x.cost):=⟨_,rfl⟩
 have hcp:=AS (val p) (val x.cost);have C1:=Lh (Ret.e (ZA (l:=p) (l':=x.cost) (by omega) (by omega) hc.symm))
 rw[<-hc] at hcp;have HCP:=Lh hcp;clear hcp;obtain⟨q,hq⟩:∃q,q=Qn p x.cost:=⟨_,rfl⟩
 have hql:q.length<=10000:=by rw[hq];unfold Qn;split<;>omega
 have HQ:Hid (q=if val x.cost<val p then x.cost else p):=hq
 have HBR:Hid (VG p x={ x with cost:=canon (val x.cost-val q) }):=by show _=_;rw[hq];rfl
 rw[<-hq];have HB1:=Lh h1.v.below;have H1:=Lh h1;clear h h1 K hp hGl hc hq;go_enter func63,ntmps63;go_wp2_with fail
 refine (C1.out.of hG HB1.out).mono ?_
 rintro e w2 ⟨rfl,hb2⟩;have H2:=Lh (H1.out.mono HK.out hb2);have q5:w2.cell? ⟨W.heap.size,5,none⟩=some (.string ⟨x.cost.toArray⟩):=H2.out.box.c 5;clear C1 H1 HB1 hb2
 go_upto_if 18 with fail
 go_cut [9] from 10 to 68 (fun s9 wx=>s9=.string ⟨q.toArray⟩/\wx=w2)
 case first=>
  obtain⟨t,ht⟩:∃t,decide (0<c)=t:=⟨_,rfl⟩
  rw[ht];have HT:=Lh ht;clear ht;cases t with
  | true=>
   have HE:Hid (x.cost=q):=by show _=_;rw[HQ.out,if_pos (HCP.out.1 (of_decide_eq_true HT.out))]
   go_wp2_with fail
   go_meet
   exact⟨by rw[HE.out],rfl⟩
  | false=>
   have HE:Hid (p=q):=by show _=_;rw[HQ.out,if_neg (fun h=>of_decide_eq_false HT.out (HCP.out.2 h))]
   go_wp2_with fail
   go_meet
   exact⟨by rw[HE.out],rfl⟩
 case rest=>
 obtain⟨rfl,rfl⟩:=hcut
 rename World=>w2
 obtain⟨g0,hg0⟩:∃g0,g0=canon G:=⟨_,rfl⟩
 have C2:=Lh (Ret.e (VK (l:=g0) (l':=q) (z:=G+val q) (by rw[hg0];have:=HGL.out;omega) (by omega) (by rw[hg0,Zh])))
 have qg:w2.cell? ⟨bg,0,none⟩=some (.string ⟨g0.toArray⟩):=by rw[hg0];exact H2.out.v.giv.c 0
 have HB2:=Lh H2.out.v.below;have HG0:=Lh hg0;clear hg0;go_wp2_with fail
 refine (C2.out.of hG HB2.out).mono ?_
 rintro e w3 ⟨rfl,hb3⟩;have H3:=Lh (H2.out.mono HK.out hb3);have H4:=Lh (H3.out.give HK.out (G+val q));have qg:w3.cell? ⟨bg,0,none⟩=some (.string ⟨g0.toArray⟩):=by rw[HG0.out];exact H3.out.v.giv.c 0
 have fg:w3.frozen? ⟨bg,0,none⟩=false:=H3.out.v.giv.f 0;clear C2 H2 HB2 hb3 q5
 go_upto_region 5 with fail
 obtain⟨w4,hw4⟩:∃w4,w4=w3.setCell ⟨bg,0,none⟩ (.string ⟨List.toArray (canon (G+val q))⟩):=⟨_,rfl⟩
 rw[<-hw4] at H4 ⊢;clear hw4 qg fg H3 HG0 HGL;obtain⟨G2,hG2⟩:∃G2,G2=G+val q:=⟨_,rfl⟩
 rw[<-hG2] at H4;have HG2:=Lh hG2;have qp:w4.cell? ⟨b,o+j,none⟩=some (.string ⟨p.toArray⟩):=by
  obtain⟨b',o',e,-,h2⟩:=H4.out.v.sts j p HP.out;cases e;exact h2
 have q2:w4.cell? ⟨bp,0,none⟩=some (.slice (some ⟨b,o,none⟩) np cq):=H4.out.v.par.c 0;clear hG2
 go_upto_if 28 with fail
 go_cut [] from 10 to 68 (fun wx=>Zax w bp bg bo bf B (some ⟨b,o,none⟩) np cq ps f W x (i+1) i G2 wx)
 case first=>
  obtain⟨t,ht⟩:∃t,(!p.isEmpty)=t:=⟨_,rfl⟩
  rw[ht];clear ht;cases t with
  | false=>
   go_wp2_with fail
   go_meet
   exact⟨v1,v2,⟨H4.out.v.up (Nat.le_succ i) (Nl i),H4.out.off1,H4.out.off2,H4.out.box,H4.out.res,H4.out.lo,H4.out.keep⟩⟩
  | true=>
   obtain⟨n1,cs1,hn1,ho1⟩:=H4.out.v.o1;obtain⟨A1,c1,rfl⟩:=Vm ho1;have HN1:=Lh hn1;have HO1:=Lh ho1;obtain⟨i0,hi,hz0,hz1,hz2⟩:=info_parts NI;have HII:=Lh (And.intro hi (And.intro hz0 (And.intro hz1 hz2)));clear hn1 ho1 hi hz0 hz1 hz2;go_wp2_with fail;clear qp q2;refine MG (n:=21) (AU bf W.heap.size bp bo b o j (some ⟨b,o,none⟩) np cq f x p (.slice A1 n1 c1) v2) (by simp) (by kernel_rfl) (by kernel_rfl) (by kernel_rfl) rfl ?_
   intro wd hwd;have H5:=Lh (H4.out.mono HK.out hwd)
   have hC:AU bf W.heap.size bp bo b o j (some ⟨b,o,none⟩) np cq f x p (.slice A1 n1 c1) v2 wd:=⟨H5.out.v.fct,H5.out.box,H5.out.v.par,by
    obtain⟨b',o',e,-,h2⟩:=H5.out.v.sts j p HP.out;cases e
    exact h2,H5.out.v.out⟩
   have HO5:=Lh (Z0 HO1.out hwd);clear H4 HO1 hwd;simp only[List.dropLast_cons_cons,List.dropLast_singleton];refine ZK 0 (by kernel_rfl) rfl rfl (by kernel_rfl) hC (fun wz hw=>by go_simp;try rfl) ?_
   simp only[Act.put,List.setIfInBounds_toArray,List.set_cons_zero,List.set_cons_succ];refine ZK 1 (by kernel_rfl) rfl rfl (by kernel_rfl) hC (fun wz hw=>by have q0:wz.cell? ⟨bo,1,none⟩=some (.slice A1 n1 c1):=hw.2.2.2.2.c 1;go_simp;try rfl) ?_
   simp only[Act.put,List.setIfInBounds_toArray,List.set_cons_zero,List.set_cons_succ];refine ZK 2 (by kernel_rfl) rfl rfl (by kernel_rfl) hC (fun wz hw=>by go_simp;try rfl) ?_
   simp only[Act.put,List.setIfInBounds_toArray,List.set_cons_zero,List.set_cons_succ];refine ZK 3 (by kernel_rfl) rfl rfl (by kernel_rfl) hC (fun wz hw=>by have q0:wz.cell? ⟨bf,0,none⟩=some (.string ⟨f.key.toArray⟩):=hw.1.c 0;go_simp;try rfl) ?_
   simp only[Act.put,List.setIfInBounds_toArray,List.set_cons_zero,List.set_cons_succ];refine ZK 4 (by kernel_rfl) rfl rfl (by kernel_rfl) hC (fun wz hw=>by go_simp;try rfl) ?_
   simp only[Act.put,List.setIfInBounds_toArray,List.set_cons_zero,List.set_cons_succ];refine ZK 5 (by kernel_rfl) rfl rfl (by kernel_rfl) hC (fun wz hw=>by have q0:wz.cell? ⟨W.heap.size,0,none⟩=some (.string ⟨x.id.toArray⟩):=hw.2.1.c 0;go_simp;try rfl) ?_
   simp only[Act.put,List.setIfInBounds_toArray,List.set_cons_zero,List.set_cons_succ];refine ZK 6 (by kernel_rfl) rfl rfl (by kernel_rfl) hC (fun wz hw=>by go_simp;try rfl) ?_
   simp only[Act.put,List.setIfInBounds_toArray,List.set_cons_zero,List.set_cons_succ];refine ZK 7 (by kernel_rfl) rfl rfl (by kernel_rfl) hC (fun wz hw=>by have q0:wz.cell? ⟨bf,5,none⟩=some (.string ⟨f.ins.toArray⟩):=hw.1.c 5;go_simp;try rfl) ?_
   simp only[Act.put,List.setIfInBounds_toArray,List.set_cons_zero,List.set_cons_succ];refine ZK 8 (by kernel_rfl) rfl rfl (by kernel_rfl) hC (fun wz hw=>by go_simp;try rfl) ?_
   simp only[Act.put,List.setIfInBounds_toArray,List.set_cons_zero,List.set_cons_succ];refine ZK 9 (by kernel_rfl) rfl rfl (by kernel_rfl) hC (fun wz hw=>by have q0:wz.cell? ⟨W.heap.size,2,none⟩=some (.int .i64 x.acq):=hw.2.1.c 2;go_simp;try rfl) ?_
   simp only[Act.put,List.setIfInBounds_toArray,List.set_cons_zero,List.set_cons_succ];refine ZK 10 (by kernel_rfl) rfl rfl (by kernel_rfl) hC (fun wz hw=>by go_simp;try rfl) ?_
   simp only[Act.put,List.setIfInBounds_toArray,List.set_cons_zero,List.set_cons_succ];refine ZK 11 (by kernel_rfl) rfl rfl (by kernel_rfl) hC (fun wz hw=>by have q0:wz.cell? ⟨bf,3,none⟩=some (.int .i64 f.day):=hw.1.c 3;go_simp;try rfl) ?_
   simp only[Act.put,List.setIfInBounds_toArray,List.set_cons_zero,List.set_cons_succ];refine ZK 12 (by kernel_rfl) rfl rfl (by kernel_rfl) hC (fun wz hw=>by have q0:wz.cell? ⟨bp,0,none⟩=some (.slice (some ⟨b,o,none⟩) np cq):=hw.2.2.1.c 0;go_simp;try rfl) ?_
   simp only[Act.put,List.setIfInBounds_toArray,List.set_cons_zero,List.set_cons_succ];refine ZK 13 (by kernel_rfl) rfl rfl (by kernel_rfl) hC (fun wz hw=>by go_simp;try rfl) ?_
   simp only[Act.put,List.setIfInBounds_toArray,List.set_cons_zero,List.set_cons_succ];refine ZK 14 (by kernel_rfl) rfl rfl (by kernel_rfl) hC (fun wz hw=>by go_simp;try rfl) ?_
   simp only[Act.put,List.setIfInBounds_toArray,List.set_cons_zero,List.set_cons_succ];refine ZK 15 (by kernel_rfl) rfl rfl (by kernel_rfl) hC (fun wz hw=>by have q0:=hw.2.2.2.1;go_simp;try rfl) ?_
   simp only[Act.put,List.setIfInBounds_toArray,List.set_cons_zero,List.set_cons_succ];refine ZK 16 (by kernel_rfl) rfl rfl (by kernel_rfl) hC (fun wz hw=>by go_simp;try rfl) ?_
   simp only[Act.put,List.setIfInBounds_toArray,List.set_cons_zero,List.set_cons_succ];refine ZK 17 (by kernel_rfl) rfl rfl (by kernel_rfl) hC (fun wz hw=>by go_simp;try rfl) ?_
   simp only[Act.put,List.setIfInBounds_toArray,List.set_cons_zero,List.set_cons_succ];refine Q4 18 (by kernel_rfl) rfl rfl hC (fun K2 hK2=>?_)
   go_wp2_with fail;refine Hn (hK2 _ _ ?_);clear hK2;have hb7:=Zb wd (.cells #[.string ⟨f.key.toArray⟩,.string ⟨x.id.toArray⟩,.string ⟨f.ins.toArray⟩,.int .i64 x.acq,.int .i64 f.day,.string ⟨#[]⟩,.string ⟨p.toArray⟩,.string ⟨q.toArray⟩,.string ⟨#[]⟩,.string ⟨#[]⟩] 89);have HA7:=Lh (ZG wd (.cells #[.string ⟨f.key.toArray⟩,.string ⟨x.id.toArray⟩,.string ⟨f.ins.toArray⟩,.int .i64 x.acq,.int .i64 f.day,.string ⟨#[]⟩,.string ⟨p.toArray⟩,.string ⟨q.toArray⟩,.string ⟨#[]⟩,.string ⟨#[]⟩] 89));obtain⟨w7,hw7⟩:∃w7,w7=wd.alloc (.cells #[.string ⟨f.key.toArray⟩,.string ⟨x.id.toArray⟩,.string ⟨f.ins.toArray⟩,.int .i64 x.acq,.int .i64 f.day,.string ⟨#[]⟩,.string ⟨p.toArray⟩,.string ⟨q.toArray⟩,.string ⟨#[]⟩,.string ⟨#[]⟩] 89):=⟨_,rfl⟩
   rw[<-hw7] at hb7 HA7 ⊢;have H7:=Lh (H5.out.mono HK.out hb7);have HO7:=Lh (Z0 HO5.out hb7);have HZ7:Hid (B<=w7.heap.size):=H7.out.v.big
   replace hC:AU bf W.heap.size bp bo b o j (some ⟨b,o,none⟩) np cq f x p (.slice A1 n1 c1) v2 w7:=⟨H7.out.v.fct,H7.out.box,H7.out.v.par,by
    obtain⟨b',o',e,-,h2⟩:=H7.out.v.sts j p HP.out;cases e
    exact h2,H7.out.v.out⟩
   clear hb7 hw7 HO5 H5;refine Q4 19 (by kernel_rfl) rfl rfl hC (fun K2 hK2=>?_)
   go_wp2_with (at_builtin;refine ZN rfl _ _ 56 rfl B 89 i0 (.agg #[.string ⟨#[]⟩,.string ⟨#[]⟩,.string ⟨#[]⟩,.int .i64 0,.int .i64 0,.string ⟨#[]⟩,.string ⟨#[]⟩,.string ⟨#[]⟩,.string ⟨#[]⟩,.string ⟨#[]⟩]) 10 144 underlying56 HII.out.1 HII.out.2.1 HII.out.2.2.1 HII.out.2.2.2 rfl (by decide) _ _ _ rfl HO7.out ⟨wd.heap.size,0,none⟩ 1 1 [.string ⟨f.key.toArray⟩,.string ⟨x.id.toArray⟩,.string ⟨f.ins.toArray⟩,.int .i64 x.acq,.int .i64 f.day,.string ⟨#[]⟩,.string ⟨p.toArray⟩,.string ⟨q.toArray⟩,.string ⟨#[]⟩,.string ⟨#[]⟩] rfl rfl ?a1 ?a2 ?a3 ?a4 ?a5 ?_)
   case a1=>
    intro j' u hu;rw[Lib.add_plain];show w7.cell? ⟨wd.heap.size,0+j',none⟩=some u;rw[Nat.zero_add,Zg HA7.out j',<-hu];rw[List.getElem?_toArray]
   case a2=>
    intro u hu;simp only[List.mem_cons,List.not_mem_nil,or_false] at hu;rcases hu with rfl|rfl|rfl|rfl|rfl|rfl|rfl|rfl|rfl|rfl<;>rfl
   case a3=>have:=HN1.out;unfold maxLen;omega
   case a4=>have:=HN1.out;omega
   case a5=>have:=HZ7.out;omega
   intro v1' w8 hown hgrow hfresh;obtain⟨A2,c2,rfl⟩:=Vm hown;have H9:=Lh (H7.out.gain HK.out HN1.out hown hgrow hfresh);have hgr:=H7.out.gr hgrow (.inl rfl);have hko:=HK.out;have hla:=hko.a b o rfl
   have hC8:AU bf W.heap.size bp bo b o j (some ⟨b,o,none⟩) np cq f x p (.slice A1 n1 c1) v2 w8:=⟨hC.1.keep (hgr _ (.inl hko.f.2.1)),hC.2.1.keep (hgr _ (.inr rfl)),hC.2.2.1.keep (hgr _ (.inl hko.p.2.1)),by
    have e:=hgr b (.inl hla.1);have q:∀k,w8.cell? ⟨b,k,none⟩=w7.cell? ⟨b,k,none⟩:=fun k=>by simp[World.cell?,e]
    exact (q _).trans hC.2.2.2.1,hC.2.2.2.2.keep (hgr _ (.inl hko.o.2.1))⟩
   have qo:w8.cell? ⟨bo,1,none⟩=some (.slice A1 n1 c1):=hC8.2.2.2.2.c 1;have fo:w8.frozen? ⟨bo,1,none⟩=false:=hC8.2.2.2.2.f 1;clear hown hgrow hfresh hgr hko hla hC H7 HO7 HZ7 HA7;go_wp2_with fail;refine Hn (hK2 _ _ ?_);clear hK2;refine ZK 20 (by kernel_rfl) rfl rfl (by kernel_rfl) hC8 (fun wz hw=>by go_simp;try rfl) ?_
   simp only[Act.put,List.setIfInBounds_toArray,List.set_cons_zero,List.set_cons_succ];refine J4 (by kernel_rfl) hC8 ?_
   clear hC8;simp only[List.getLast_cons_cons,List.getLast_singleton];go_wp2_with fail
   go_meet
   exact⟨_,_,H9.out⟩
 case rest=>
 rename World=>w5
 obtain⟨v1,v2,h5⟩:=hcut;have H5:=Lh h5;clear h5 H4 qp q2
 go_upto_if 51 with fail
 go_cut [] from 10 to 68 (fun wx=>Zax w bp bg bo bf B (some ⟨b,o,none⟩) np cq ps f W x (i+1) (i+1) G2 wx)
 case first=>
  obtain⟨t,ht⟩:∃t,(!q.isEmpty)=t:=⟨_,rfl⟩
  rw[ht];clear ht;cases t with
  | false=>
   go_wp2_with fail
   go_meet
   exact⟨v1,v2,⟨H5.out.v.up (Nl _) (Nat.le_succ i),H5.out.off1,H5.out.off2,H5.out.box,H5.out.res,H5.out.lo,H5.out.keep⟩⟩
  | true=>
   obtain⟨n1,cs1,hn1,ho1⟩:=H5.out.v.o2;obtain⟨A1,c1,rfl⟩:=Vm ho1;have HN1:=Lh hn1;have hb7:=Zb w5 (.cells #[.string ⟨f.key.toArray⟩,.string ⟨x.id.toArray⟩,.string ⟨#[]⟩,.string ⟨#[]⟩,.string ⟨#[]⟩,.string ⟨q.toArray⟩] 136);have HA7:=Lh (ZG w5 (.cells #[.string ⟨f.key.toArray⟩,.string ⟨x.id.toArray⟩,.string ⟨#[]⟩,.string ⟨#[]⟩,.string ⟨#[]⟩,.string ⟨q.toArray⟩] 136));have H7:=Lh (H5.out.mono HK.out hb7);have HO7:=Lh (Z0 ho1 hb7);have HZ7:Hid (B<=(w5.alloc (.cells #[.string ⟨f.key.toArray⟩,.string ⟨x.id.toArray⟩,.string ⟨#[]⟩,.string ⟨#[]⟩,.string ⟨#[]⟩,.string ⟨q.toArray⟩] 136)).heap.size):=H7.out.v.big;obtain⟨i0,hi,hz0,hz1,hz2⟩:=info_parts NJ;have HII:=Lh (And.intro hi (And.intro hz0 (And.intro hz1 hz2)));have p0:w5.cell? ⟨bo,2,none⟩=some (.slice A1 n1 c1):=H5.out.v.out.c 2;have p1:w5.cell? ⟨bf,0,none⟩=some (.string ⟨f.key.toArray⟩):=H5.out.v.fct.c 0;have p2:w5.cell? ⟨W.heap.size,0,none⟩=some (.string ⟨x.id.toArray⟩):=H5.out.box.c 0;clear hn1 ho1 hi hz0 hz1 hz2 hb7;go_wp2_with (at_builtin;refine ZN rfl _ _ 57 rfl B 136 i0 (.agg #[.string ⟨#[]⟩,.string ⟨#[]⟩,.string ⟨#[]⟩,.string ⟨#[]⟩,.string ⟨#[]⟩,.string ⟨#[]⟩]) 6 96 underlying57 HII.out.1 HII.out.2.1 HII.out.2.2.1 HII.out.2.2.2 rfl (by decide) _ _ _ rfl HO7.out ⟨w5.heap.size,0,none⟩ 1 1 [.string ⟨f.key.toArray⟩,.string ⟨x.id.toArray⟩,.string ⟨#[]⟩,.string ⟨#[]⟩,.string ⟨#[]⟩,.string ⟨q.toArray⟩] rfl rfl ?b1 ?b2 ?b3 ?b4 ?b5 ?_)
   case b1=>
    intro j' u hu;rw[Lib.add_plain];show (w5.alloc (.cells #[.string ⟨f.key.toArray⟩,.string ⟨x.id.toArray⟩,.string ⟨#[]⟩,.string ⟨#[]⟩,.string ⟨#[]⟩,.string ⟨q.toArray⟩] 136)).cell? ⟨w5.heap.size,0+j',none⟩=some u;rw[Nat.zero_add,Zg HA7.out j',<-hu];rw[List.getElem?_toArray]
   case b2=>
    intro u hu;simp only[List.mem_cons,List.not_mem_nil,or_false] at hu;rcases hu with rfl|rfl|rfl|rfl|rfl|rfl<;>rfl
   case b3=>have:=HN1.out;unfold maxLen;omega
   case b4=>have:=HN1.out;omega
   case b5=>have:=HZ7.out;omega
   intro v2' w8 hown hgrow hfresh;obtain⟨A2,c2,rfl⟩:=Vm hown;have H9:=Lh (H7.out.step HK.out HN1.out hown hgrow (fun k hk=>(hfresh k hk).imp id (fun h=>by simpa using h)))
   have hgr:=H7.out.gr hgrow (.inr rfl);have hko:=HK.out;have hbo:Blk w8 bo (Zbp v1 (.slice A1 n1 c1)):=H7.out.v.out.keep (hgr _ (.inl hko.o.2.1));have qo:w8.cell? ⟨bo,2,none⟩=some (.slice A1 n1 c1):=hbo.c 2;have fo:w8.frozen? ⟨bo,2,none⟩=false:=hbo.f 2;clear hown hgrow hfresh hgr hko hbo H7 HO7 HZ7 HA7 p0 p1 p2 H5;go_wp2_with fail
   go_meet
   exact⟨_,_,H9.out⟩
 case rest=>
 rename World=>w6
 obtain⟨v1,v2,h6⟩:=hcut;have H6:=Lh h6;have C3:=Lh (Ret.e (W7 (l:=x.cost) (l':=q) (z:=val x.cost-val q) (by omega) (by omega) rfl))
 have q5:w6.cell? ⟨W.heap.size,5,none⟩=some (.string ⟨x.cost.toArray⟩):=H6.out.box.c 5;have HB6:=Lh H6.out.v.below;clear h6 H5;go_wp2_with fail
 refine (C3.out.of hG HB6.out).mono ?_
 rintro e w7 ⟨rfl,hb7⟩;have H7:=Lh (H6.out.mono HK.out hb7);have q5:w7.cell? ⟨W.heap.size,5,none⟩=some (.string ⟨x.cost.toArray⟩):=H7.out.box.c 5;have f5:w7.frozen? ⟨W.heap.size,5,none⟩=false:=H7.out.box.f 5;clear C3 H6 HB6 hb7;obtain⟨k,hk⟩:∃k,k=canon (val x.cost-val q):=⟨_,rfl⟩
 obtain⟨y,hy⟩:∃y:Lot,y={ x with cost:=k }:=⟨_,rfl⟩
 have HY:Hid (y=VG p x):=by show _=_;rw[hy,hk,HBR.out]
 rw[<-hk];obtain⟨t7,hbx⟩:=H7.out.box;have ht1:=Wt w7 W.heap.size 5 _ (.string ⟨k.toArray⟩) t7 hbx;have X8:Hid (Blk (w7.setCell ⟨W.heap.size,5,none⟩ (.string ⟨k.toArray⟩)) W.heap.size #[.string ⟨y.id.toArray⟩,.string ⟨y.ins.toArray⟩,.int .i64 y.acq,.int .i64 y.opn,.string ⟨y.q.toArray⟩,.string ⟨y.cost.toArray⟩,.string ⟨y.used.toArray⟩]):=⟨t7,by rw[hy];exact ht1.new⟩
 obtain⟨t8,hbr⟩:=H7.out.res;have hbr8:(w7.setCell ⟨W.heap.size,5,none⟩ (.string ⟨k.toArray⟩)).heap[W.heap.size+1]?=some (.cells #[.string ⟨#[]⟩,.string ⟨#[]⟩,.int .i64 0,.int .i64 0,.string ⟨#[]⟩,.string ⟨#[]⟩,.string ⟨#[]⟩] t8 (0,0)):=(ht1.old _ (by omega)).trans hbr
 obtain⟨r1,r2⟩:=VF (cs:=#[.string ⟨y.id.toArray⟩,.string ⟨y.ins.toArray⟩,.int .i64 y.acq,.int .i64 y.opn,.string ⟨y.q.toArray⟩,.string ⟨y.cost.toArray⟩,.string ⟨y.used.toArray⟩]) hbr8 rfl;have HTH:=Lh r1;obtain⟨wE,hwE⟩:∃wE,wE=(w7.setCell ⟨W.heap.size,5,none⟩ (.string ⟨k.toArray⟩)).setCells (W.heap.size+1) 0 (#[.string ⟨y.id.toArray⟩,.string ⟨y.ins.toArray⟩,.int .i64 y.acq,.int .i64 y.opn,.string ⟨y.q.toArray⟩,.string ⟨y.cost.toArray⟩,.string ⟨y.used.toArray⟩]:Array Value).toList:=⟨_,rfl⟩
 have HWE:=Lh hwE;rw[<-hwE] at r2;have HRR:=Lh r2.new;have HEND:Hid (ZR w bp bg bo bf B (some ⟨b,o,none⟩) np cq ps f (i+1) (i+1) G2 v1 v2 wE/\Xv B bg bo W wE):=by
  have hlo:=H7.out.lo;have hkg:=HK.out.g;refine H7.out.done HK.out (r2.size.trans ht1.size) (fun c h1 h2=>(r2.old c h2).trans (ht1.old c h1)) ?_
  rw[hwE];exact Lib.below_setCells _ (by omega) _ _ (Yv H7.out.v.below (by omega) 5 _)
 have HI:Hid ((prog.info? 130).map (·.size)=some (#[.string ⟨y.id.toArray⟩,.string ⟨y.ins.toArray⟩,.int .i64 y.acq,.int .i64 y.opn,.string ⟨y.q.toArray⟩,.string ⟨y.cost.toArray⟩,.string ⟨y.used.toArray⟩]:Array Value).size):=by show _=_;kernel_rfl
 have HM:Hid ((#[.string ⟨y.id.toArray⟩,.string ⟨y.ins.toArray⟩,.int .i64 y.acq,.int .i64 y.opn,.string ⟨y.q.toArray⟩,.string ⟨y.cost.toArray⟩,.string ⟨y.used.toArray⟩]:Array Value).all (·.oneCell')=true):=all_oneCell_toArray (cs:=lcs y) (fun v hv=>by simp only[lcs,List.mem_cons,List.not_mem_nil,or_false] at hv;rcases hv with rfl|rfl|rfl|rfl|rfl|rfl|rfl<;>rfl)
 clear hy hk hbx ht1 hbr hbr8 r1 r2 hwE H7 HBR;go_wp2_with (first|(refine Zj rfl 130 (.tmp 7) rfl W.heap.size rfl #[.string ⟨y.id.toArray⟩,.string ⟨y.ins.toArray⟩,.int .i64 y.acq,.int .i64 y.opn,.string ⟨y.q.toArray⟩,.string ⟨y.cost.toArray⟩,.string ⟨y.used.toArray⟩] X8.out underlying130 rfl HI.out ?_)|(refine wpList_store_mid rfl 130 (.tmp 8) (.tmp 68) rfl (W.heap.size+1) 0 #[.string ⟨y.id.toArray⟩,.string ⟨y.ins.toArray⟩,.int .i64 y.acq,.int .i64 y.opn,.string ⟨y.q.toArray⟩,.string ⟨y.cost.toArray⟩,.string ⟨y.used.toArray⟩] rfl rfl HTH.out HI.out HM.out ?_;rw[<-HWE.out]))
 refine bodyPost_ret (v:=(Value.agg #[.string ⟨y.id.toArray⟩,.string ⟨y.ins.toArray⟩,.int .i64 y.acq,.int .i64 y.opn,.string ⟨y.q.toArray⟩,.string ⟨y.cost.toArray⟩,.string ⟨y.used.toArray⟩])) ?_ rfl ?_
 ·exact Yr Tryz.f63 8 130 #[.string ⟨y.id.toArray⟩,.string ⟨y.ins.toArray⟩,.int .i64 y.acq,.int .i64 y.opn,.string ⟨y.q.toArray⟩,.string ⟨y.cost.toArray⟩,.string ⟨y.used.toArray⟩] rfl rfl (Z9 HRR.out) underlying130 rfl HI.out
 rw[HY.out] at *;exact⟨rfl,⟨v1,v2,by rw[<-HG2.out];exact HEND.out.1⟩,HEND.out.2⟩
theorem XO.up {w:World} {bp bg bo bf B B':Nat} {AP:Option Addr} (K:XO w bp bg bo bf B AP) (h:B<=B'):XO w bp bg bo bf B' AP:=by
 obtain⟨⟨p1,p2,p3,p4⟩,⟨f1,f2,f3,f4⟩,⟨g1,g2⟩,⟨o1,o2,o3⟩,a⟩:=K;exact⟨⟨p1,by omega,p3,p4⟩,⟨f1,by omega,f3,f4⟩,⟨g1,by omega⟩,⟨o1,by omega,o3⟩,fun b o e=>⟨by have:=(a b o e).1;omega,(a b o e).2⟩⟩
theorem ZR.keepC {w:World} {bp bg bo bf B C:Nat} {AP:Option Addr} {np cq:Nat} {ps:List (List UInt8)} {f:Fct} {j1 j2:Nat} {G:Int} {v1 v2:Value} {W W':World} (K:XO w bp bg bo bf C AP) (hC:C<=B) (h:ZR w bp bg bo bf B AP np cq ps f j1 j2 G v1 v2 W) (hb:Below w.heap.size w W') (hs:W.heap.size<=W'.heap.size) (hold:∀b,b<W.heap.size->(b<C∨v1.ownBlock=some b∨v2.ownBlock=some b)->W'.heap[b]?=W.heap[b]?):ZR w bp bg bo bf B AP np cq ps f j1 j2 G v1 v2 W':=by
 have hl:∀b,b<C->W'.heap[b]?=W.heap[b]?:=fun b hlt=>hold b (by have:=h.big;omega) (.inl hlt)
 refine⟨hb,h.par.keep (hl _ K.p.2.1),h.sts.keep hs (fun b o e=>hl b (K.a b o e).1),h.giv.keep (hl _ K.g.2),h.out.keep (hl _ K.o.2.1),h.fct.keep (hl _ K.f.2.1),?_,?_,h.dis,Nt h.big hs⟩
 ·obtain⟨n,cs,hn,ho⟩:=h.o1;exact⟨n,cs,hn,Xf ho (fun b e=>hold b (h.r1 b e).2 (.inr (.inl e)))⟩
 ·obtain⟨n,cs,hn,ho⟩:=h.o2;exact⟨n,cs,hn,Xf ho (fun b e=>hold b (h.r2 b e).2 (.inr (.inr e)))⟩
theorem ZR.base {w:World} {bp bg bo bf B B':Nat} {AP:Option Addr} {np cq:Nat} {ps:List (List UInt8)} {f:Fct} {j1 j2:Nat} {G:Int} {W:World} (h:ZR w bp bg bo bf B AP np cq ps f j1 j2 G (.slice none 0 0) (.slice none 0 0) W) (hB:B'<=W.heap.size):ZR w bp bg bo bf B' AP np cq ps f j1 j2 G (.slice none 0 0) (.slice none 0 0) W:=
 ⟨h.below,h.par,h.sts,h.giv,h.out,h.fct,⟨0,[],Nat.zero_le _,World.ownsRow_nil W B' 89 10⟩,⟨0,[],Nat.zero_le _,World.ownsRow_nil W B' 136 6⟩,h.dis,hB⟩
theorem Xv.low {B C bg bo:Nat} {W W':World} (h:Xv B bg bo W W') (hC:C<=B):Xv C bg bo W W':=⟨h.size,fun b h1 h2 h3=>h.block b (by omega) h2 h3⟩
theorem Xv.of_below {C bg bo:Nat} {W W':World} (h:Below W.heap.size W W') (hC:C<=W.heap.size):Xv C bg bo W W':=⟨h.size,fun b h1 _ _=>h.block b (by omega)⟩
theorem Yo.keepH {w w':World} {g:Nat} {qs:List Lot} (h:Yo w g qs) (e:w'.heap[g]?=w.heap[g]?):Yo w' g qs:=by
 obtain⟨cur,h,h2⟩:=h;exact⟨cur,e.trans h,h2⟩
structure WI (e:Nat) (I:List UInt8) (xs:List Lot) (ps:List (List UInt8)) (i j:Nat) (zs:List Lot) (G:Int):Prop where
 eq:zs=(YF I ps xs).take i++xs.drop i
 rest:(YF I ps xs).drop i=YF I (ps.drop j) (xs.drop i)
 le:i<=xs.length
 g:G+Ug I (ps.drop j) (xs.drop i)=Ug I ps xs
 cnt:j+(ofL I (xs.drop i)).length=(ofL I xs).length
 gb:G.natAbs<=i*10 ^ e
theorem LW (e:Nat) (I:List UInt8) (xs:List Lot) (ps:List (List UInt8)):WI e I xs ps 0 0 xs 0:=⟨by simp,by simp,Nat.zero_le _,by simp,by simp,by simp⟩
theorem WI.at {e:Nat} {I:List UInt8} {xs:List Lot} {ps:List (List UInt8)} {i j:Nat} {zs:List Lot} {G:Int} (h:WI e I xs ps i j zs G) {x:Lot} (hx:xs[i]?=some x):zs[i]?=some x/\zs.length=xs.length:=by
 have hi:=(Lg.1 hx).1;have hl:=Uh I ps xs;have ht:((YF I ps xs).take i).length=i:=by rw[List.length_take];omega
 rw[h.eq];refine⟨?_,by rw[List.length_append,ht,List.length_drop];omega⟩
 rw[List.getElem?_append_right (by omega),ht,Nat.sub_self,List.getElem?_drop,Nat.add_zero]
 exact hx
theorem WI.put {e:Nat} {I:List UInt8} {xs:List Lot} {ps:List (List UInt8)} {i j j':Nat} {zs:List Lot} {G G':Int} (h:WI e I xs ps i j zs G) {x y:Lot} (hx:xs[i]?=some x) (hy:YF I (ps.drop j) (xs.drop i)=y::YF I (ps.drop j') (xs.drop (i+1))) (hg:G'+Ug I (ps.drop j') (xs.drop (i+1))=Ug I ps xs) (hc:j'+(ofL I (xs.drop (i+1))).length=(ofL I xs).length) (hb:G'.natAbs<=(i+1)*10 ^ e):WI e I xs ps (i+1) j' (zs.set i y) G':=by
 obtain⟨hz,hzl⟩:=h.at hx;have hi:=(Lg.1 hx).1;have hl:=Uh I ps xs;have hr:=h.rest.trans hy;have hyi:(YF I ps xs)[i]?=some y:=by
  have:=congrArg (fun l=>l[0]?) hr
  simpa [List.getElem?_drop] using this
 obtain⟨hi2,hye⟩:=Lg.1 hyi;have ht:((YF I ps xs).take i).length=i:=by rw[List.length_take];omega
 refine⟨?_,?_,hi,hg,hc,hb⟩
 ·rw[h.eq,List.take_succ_eq_append_getElem hi2,hye,List.set_append_right _ _ (by omega),ht,Nat.sub_self,List.drop_eq_getElem_cons hi,List.set_cons_zero,List.append_assoc,List.singleton_append]
 ·have:=congrArg List.tail hr
  rw[List.tail_cons,List.tail_drop] at this;exact this
theorem WI.yes {e:Nat} {I:List UInt8} {xs:List Lot} {ps:List (List UInt8)} {i j:Nat} {zs:List Lot} {G:Int} (h:WI e I xs ps i j zs G) {x:Lot} {p:List UInt8} (hx:xs[i]?=some x) (hp:ps[j]?=some p) (hI:x.ins=I) (hpe:p.length<=e) (hce:x.cost.length<=e):WI e I xs ps (i+1) (j+1) (zs.set i (VG p x)) (G+val (Qn p x.cost)):=by
 obtain⟨hi,rfl⟩:=Lg.1 hx;have e1:xs.drop i=xs[i]::xs.drop (i+1):=List.drop_eq_getElem_cons hi;obtain⟨hj,rfl⟩:=Lg.1 hp;have e2:(ps.drop j).headD []=ps[j]:=by rw[List.drop_eq_getElem_cons hj];rfl
 have e3:(ps.drop j).tail=ps.drop (j+1):=List.tail_drop;have hg:=h.g;have hc:=h.cnt;have hb:=h.gb;rw[e1,Ug,if_pos hI,e2,e3] at hg;rw[e1,Tn hI,List.length_cons] at hc;refine h.put hx ?_ (by omega) (by omega) ?_
 ·rw[e1,YF,if_pos hI,e2,e3]
 ·have h1:(val (Qn ps[j] xs[i].cost)).natAbs<10 ^ e:=by
   unfold Qn
   split
   ·exact Zo hce
   ·exact Zo hpe
  rw[Nat.succ_mul]
  have:=Int.natAbs_add_le G (val (Qn ps[j] xs[i].cost))
  omega
theorem WI.no {e:Nat} {I:List UInt8} {xs:List Lot} {ps:List (List UInt8)} {i j:Nat} {zs:List Lot} {G:Int} (h:WI e I xs ps i j zs G) {x:Lot} (hx:xs[i]?=some x) (hI:¬x.ins=I):WI e I xs ps (i+1) j zs G:=by
 obtain⟨hz,hzl⟩:=h.at hx;obtain⟨hi,rfl⟩:=Lg.1 hx;have e1:xs.drop i=xs[i]::xs.drop (i+1):=List.drop_eq_getElem_cons hi;have hg:=h.g;have hc:=h.cnt;have hb:=h.gb;rw[e1,Ug,if_neg hI] at hg;rw[e1,Mp hI] at hc;have hs:zs.set i xs[i]=zs:=by
  obtain⟨hi2,hz2⟩:=Lg.1 hz;rw[<-hz2];exact List.set_getElem_self hi2
 have:=h.put (y:=xs[i]) hx (by rw[e1,YF,if_neg hI]) hg hc (by rw[Nat.succ_mul];exact Nt hb (Nat.le_add_right _ _))
 rwa [hs] at this
theorem WI.done {e:Nat} {I:List UInt8} {xs:List Lot} {ps:List (List UInt8)} {i j:Nat} {zs:List Lot} {G:Int} (h:WI e I xs ps i j zs G) (hi:xs.length<=i):zs=YF I ps xs/\G=Ug I ps xs:=by
 have hl:=Uh I ps xs;have h1:=h.g;rw[List.drop_of_length_le hi] at h1;refine⟨?_,?_⟩
 ·rw[h.eq,List.drop_of_length_le hi,List.append_nil,List.take_of_length_le (by omega)]
 ·rw[<-h1];cases ps.drop j<;>simp[Ug]
theorem WI.len {e:Nat} {I:List UInt8} {xs:List Lot} {ps:List (List UInt8)} {i j:Nat} {zs:List Lot} {G:Int} (h:WI e I xs ps i j zs G) (hn:i<=100000) (he:e<=10000):(canon G).length<=200000:=by
 have h1:=h.gb;refine Nt (Zl _ (e+6) ?_) (by omega)
 have h2:i*10 ^ e<=100000*10 ^ e:=Nat.mul_le_mul_right _ hn;have h3:(100000:Nat)*10 ^ e<10 ^ (e+6):=by
  rw[Nat.pow_add,Nat.mul_comm];exact Nat.mul_lt_mul_of_pos_left (by decide) (Nat.pow_pos (by decide))
 omega
theorem AW {w W:World} {bp bg bo bf:Nat} {AP:Option Addr} {np cq:Nat} {ps:List (List UInt8)} {f:Fct} {A:Option Addr} {xs:List Lot} {n e:Nat} (c:Nat) (hG:GE w) (K:XO w bp bg bo bf W.heap.size AP) (h:ZR w bp bg bo bf W.heap.size AP np cq ps f 0 0 0 (.slice none 0 0) (.slice none 0 0) W) (hL:Yf W A xs n) (hn0:0<n) (hnp:ps.length=np) (he:e<=10000) (hpl:∀p∈ps,p.length<=e) (hce:∀x∈xs,x.cost.length<=e) (hcnt:(ofL f.ins xs).length<=np) :
  Calls prog 62 #[.slice A n c,.string ⟨f.ins.toArray⟩,.func (.func 63) #[] #[.pointer (some ⟨bp,0,none⟩),.pointer (some ⟨bg,0,none⟩),.pointer (some ⟨bo,0,none⟩),.pointer (some ⟨bf,0,none⟩)]] W fun e' W'=>∃g c' B v1 v2,e'=.returned (.slice (some ⟨g,0,none⟩) n c')/\W.heap.size<=g/\g<B/\Yo W' g (YF f.ins ps xs)/\ZR w bp bg bo bf B AP np cq ps f n n (Ug f.ins ps xs) v1 v2 W'/\Xv W.heap.size bg bo W W':=by
 have hn:=hL.len;have hn2:=hL.big;have C1:=Lh (Nq A xs n c W hn hn0 (by omega) hL.mem)
 have HK:=Lh K;have HV:=Lh h;have HSM:Hid (∀x∈xs,x.cost.length<=1000):=fun x hx=>(hL.sm x hx).cost
 have HCE:=Lh hce;have HPL:=Lh hpl;have HNP:=Lh hnp;have HCT:=Lh hcnt;have HN:=Lh hn;clear hL hn hce hpl hnp hcnt h K;go_enter func62,ntmps62;go_wp2_with fail
 refine C1.out.mono ?_
 rintro e1 w1 ⟨g,c',rfl,hg,hrow,hb1⟩;obtain⟨B,hB⟩:∃B,B=w1.heap.size:=⟨_,rfl⟩
 have HV1:Hid (ZR w bp bg bo bf B AP np cq ps f 0 0 0 (.slice none 0 0) (.slice none 0 0) w1):=(HV.out.mono HK.out hb1).base (by rw[hB];exact Nl _)
 have HCB:Hid (W.heap.size<=B):=by show _<=_;rw[hB];exact hb1.size
 have HGB:Hid (W.heap.size<=g/\g<B):=⟨hg,by rw[hB];exact hrow.lt⟩
 have HKB:=Lh (HK.out.up HCB.out);have HR1:=Lh hrow;have HKP:Hid (Xv W.heap.size bg bo W w1):=Xv.of_below hb1 (Nl _);have HI0:=Lh (LW e f.ins xs ps);clear C1 HV hg hrow hb1 hB;go_wp2_with fail
 go_loopw [8,9,10,15] (fun nv _ _ iv wr=>∃(i j:Nat) (zs:List Lot) (G:Int),i<=n/\j<=i/\nv=.int .i64 (j:Int)/\iv=.int .i64 (i:Int)/\Hid (Yo wr g zs)/\Hid (WI e f.ins xs ps i j zs G)/\Hid (∃v1 v2,ZR w bp bg bo bf B AP np cq ps f i i G v1 v2 wr)/\Hid (Xv W.heap.size bg bo W wr)) (fun _ _ _ iv _=>n-(intOf iv).toNat)
 case atStart=>exact⟨0,0,xs,0,Nat.zero_le _,Nl _,rfl,rfl,HR1.out,HI0.out,⟨_,_,HV1.out⟩,HKP.out⟩
 case round=>
  clear HR1 HI0 HV1 HKP;obtain⟨i,j,zs,G,hi,hj,rfl,rfl,HR,HI,HBV,HKP⟩:=hrel
  by_cases hlk:i<n
  rotate_left
  ·have e1:decide (i<n)=false:=Df hlk;have e2:decide ((i:Int)<(n:Int))=false:=Df (by omega)
   have HE:Hid (Yo wr g (YF f.ins ps xs)/\∃v1 v2,ZR w bp bg bo bf B AP np cq ps f n n (Ug f.ins ps xs) v1 v2 wr):=by
    obtain⟨h1,h2⟩:=HI.out.done (by rw[HN.out];omega)
    refine⟨by rw[<-h1];exact HR.out,?_⟩
    obtain⟨v1,v2,hv⟩:=HBV.out;exact⟨v1,v2,by rw[<-h2];exact hv.up hi hi⟩
   clear HR HI HBV;go_wp2;go_ret;obtain⟨v1,v2,hv⟩:=HE.out.2;exact⟨g,c',B,v1,v2,rfl,HGB.out.1,HGB.out.2,HE.out.1,hv,HKP.out⟩
  have e1:decide (i<n)=true:=Dt hlk;have e2:decide ((i:Int)<(n:Int))=true:=Dt (by omega)
  obtain⟨x,hx⟩:∃x,xs[i]?=some x:=⟨_,List.getElem?_eq_getElem (by have:=HN.out;omega)⟩
  obtain⟨hzx,hzl⟩:=HI.out.at hx;have hcells:=HR.out.cells hzx;have p0:=hcells.c0;have p1:=hcells.c1;have p2:=hcells.c2;have p3:=hcells.c3;have p4:=hcells.c4;have p5:=hcells.c5;have p6:=hcells.c6;have hbA:=Zb wr (.cells #[.string ⟨x.id.toArray⟩,.string ⟨x.ins.toArray⟩,.int .i64 x.acq,.int .i64 x.opn,.string ⟨x.q.toArray⟩,.string ⟨x.cost.toArray⟩,.string ⟨x.used.toArray⟩] 130);have Y1:=Lh (YS.new wr x 130);have y1:=Y1.out.c1;have HX:=Lh hx;have HZX:=Lh hzx;have HZL:Hid (zs.length=n):=by show _=_;rw[hzl,HN.out]
  have HBA:=Lh hbA;have HKA:Hid (Xv W.heap.size bg bo W (wr.alloc (.cells #[.string ⟨x.id.toArray⟩,.string ⟨x.ins.toArray⟩,.int .i64 x.acq,.int .i64 x.opn,.string ⟨x.q.toArray⟩,.string ⟨x.cost.toArray⟩,.string ⟨x.used.toArray⟩] 130))):=HKP.out.trans (Xv.of_below hbA HKP.out.size);clear HKP;clear hcells hx hzx hzl hbA
  by_cases g1:x.ins=f.ins
  rotate_left
  ·have t1:(x.ins==f.ins)=false:=by rw[Bn];exact g1
   have HI2:=Lh (HI.out.no HX.out g1);have HR2:=Lh (HR.out.below HBA.out);have HBV2:Hid (∃v1 v2,ZR w bp bg bo bf B AP np cq ps f (i+1) (i+1) G v1 v2 (wr.alloc (.cells #[.string ⟨x.id.toArray⟩,.string ⟨x.ins.toArray⟩,.int .i64 x.acq,.int .i64 x.opn,.string ⟨x.q.toArray⟩,.string ⟨x.cost.toArray⟩,.string ⟨x.used.toArray⟩] 130))):=by
    obtain⟨v1,v2,hv⟩:=HBV.out;exact⟨v1,v2,(hv.mono HKB.out HBA.out).up (Nat.le_succ i) (Nat.le_succ i)⟩
   clear HI HR HBV HBA Y1 HX HZX g1;go_wp2_with fail;clear p0 p1 p2 p3 p4 p5 p6 y1 t1 e1 e2;go_roundw
   case rel=>exact⟨i+1,j,zs,G,by omega,by omega,rfl,by go_num,HR2.out,HI2.out,HBV2.out,HKA.out⟩
   case measure=>simp[intOf];omega
  have t1:(x.ins==f.ins)=true:=by rw[beq_iff_eq];exact g1
  have hjn:j<np:=by
   have h1:=HI.out.cnt;have h2:=HCT.out;obtain⟨hi2,hxe⟩:=Lg.1 HX.out;rw[List.drop_eq_getElem_cons hi2,hxe,Tn g1,List.length_cons] at h1;omega
  obtain⟨p,hp⟩:∃p,ps[j]?=some p:=⟨_,List.getElem?_eq_getElem (by have:=HNP.out;omega)⟩
  have hpe:=HPL.out p (Lm hp);have hxm:=Lm HX.out;have hxe:=HCE.out x hxm;have HI2:=Lh (HI.out.yes HX.out hp g1 hpe hxe);have hgl:=HI.out.len (by omega) he
  have HS1:Hid (∃v1 v2,ZR w bp bg bo bf B AP np cq ps f i i G v1 v2 (wr.alloc (.cells #[.string ⟨x.id.toArray⟩,.string ⟨x.ins.toArray⟩,.int .i64 x.acq,.int .i64 x.opn,.string ⟨x.q.toArray⟩,.string ⟨x.cost.toArray⟩,.string ⟨x.used.toArray⟩] 130))):=by
   obtain⟨v1,v2,hv⟩:=HBV.out;exact⟨v1,v2,hv.mono HKB.out HBA.out⟩
  have CB:=Lh (AV (j:=j) (i:=i) hG HKB.out HS1.out hp (by omega) (HSM.out x hxm) hgl hjn (by omega))
  have HR2:=Lh (HR.out.below HBA.out);have HSZ:Hid (wr.heap.size+1<=(wr.alloc (.cells #[.string ⟨x.id.toArray⟩,.string ⟨x.ins.toArray⟩,.int .i64 x.acq,.int .i64 x.opn,.string ⟨x.q.toArray⟩,.string ⟨x.cost.toArray⟩,.string ⟨x.used.toArray⟩] 130)).heap.size):=by show _<=_;simp
  clear HI HR HBV HBA g1 hp hpe hxm hxe hgl hjn;go_wp2_with (refine Zj rfl 130 (.tmp 10) rfl wr.heap.size rfl #[.string ⟨x.id.toArray⟩,.string ⟨x.ins.toArray⟩,.int .i64 x.acq,.int .i64 x.opn,.string ⟨x.q.toArray⟩,.string ⟨x.cost.toArray⟩,.string ⟨x.used.toArray⟩] Y1.out underlying130 rfl (by kernel_rfl) ?_)
  refine CB.out.mono ?_
  rintro e5 w5 ⟨rfl,hS5,hk5⟩;clear p0 p1 p2 p3 p4 p5 p6 y1 Y1 t1 e1 e2;obtain⟨y,hy⟩:∃y,y=VG p x:=⟨_,rfl⟩
  rw[<-hy] at HI2 ⊢;have hkg:=HK.out.g;have hko:=HK.out.o;have hgb:=HGB.out;have HR5:=Lh (HR2.out.keepH (hk5.block g hgb.2 (by omega) (by omega)))
  have HI5:Hid (i<zs.length):=by show _<_;rw[HZL.out];exact hlk
  have HT5:=Lh (HR5.out.there HI5.out);have HR6:=Lh (HR5.out.set y HI5.out);obtain⟨w6,hw6⟩:∃w6,w6=w5.setCells g (i*7) (lcs y):=⟨_,rfl⟩
  have HBV6:Hid (∃v1 v2,ZR w bp bg bo bf B AP np cq ps f (i+1) (i+1) (G+val (Qn p x.cost)) v1 v2 w6):=by
   obtain⟨v1,v2,hv⟩:=hS5;obtain⟨cur,hcur,-⟩:=HR5.out;have htu:=VM g 130 (lcs y) (i*7) cur w5 hcur;rw[<-hw6] at htu;refine⟨v1,v2,hv.keepC HK.out HCB.out ?_ (by rw[htu.size];exact Nl _) (fun b _ hb=>htu.old b ?_)⟩
   ·rw[hw6];exact Lib.below_setCells _ (by have:=hv.below.size;have:=HK.out.p;omega) _ _ hv.below
   ·rcases hb with hb|hb|hb
    ·omega
    ·have:=(hv.r1 b hb).1;omega
    ·have:=(hv.r2 b hb).1;omega
  rw[<-hw6] at HR6;have HK6:Hid (Xv W.heap.size bg bo W w6):=by
   obtain⟨cur,hcur,-⟩:=HR5.out;have htu:=VM g 130 (lcs y) (i*7) cur w5 hcur;rw[<-hw6] at htu;exact (HKA.out.trans (hk5.low HCB.out)).trans ⟨by rw[htu.size];exact Nl _,fun b h1 _ _=>htu.old b (by omega)⟩
  have HW6:=Lh hw6;have HI6:Hid ((prog.info? 130).map (·.size)=some (#[.string ⟨y.id.toArray⟩,.string ⟨y.ins.toArray⟩,.int .i64 y.acq,.int .i64 y.opn,.string ⟨y.q.toArray⟩,.string ⟨y.cost.toArray⟩,.string ⟨y.used.toArray⟩]:Array Value).size):=by show _=_;kernel_rfl
  have HM6:Hid ((#[.string ⟨y.id.toArray⟩,.string ⟨y.ins.toArray⟩,.int .i64 y.acq,.int .i64 y.opn,.string ⟨y.q.toArray⟩,.string ⟨y.cost.toArray⟩,.string ⟨y.used.toArray⟩]:Array Value).all (·.oneCell')=true):=all_oneCell_toArray (cs:=lcs y) (fun v hv=>by simp only[lcs,List.mem_cons,List.not_mem_nil,or_false] at hv;rcases hv with rfl|rfl|rfl|rfl|rfl|rfl|rfl<;>rfl)
  clear hw6 hS5 hk5 hy hkg hko hgb HR5 HR2 HS1 HX HZX CB HSZ;go_wp2_with (refine wpList_store_mid rfl 130 (.tmp 30) (.tmp 29) rfl g (i*7) #[.string ⟨y.id.toArray⟩,.string ⟨y.ins.toArray⟩,.int .i64 y.acq,.int .i64 y.opn,.string ⟨y.q.toArray⟩,.string ⟨y.cost.toArray⟩,.string ⟨y.used.toArray⟩] rfl rfl HT5.out HI6.out HM6.out ?_;rw[show (#[.string ⟨y.id.toArray⟩,.string ⟨y.ins.toArray⟩,.int .i64 y.acq,.int .i64 y.opn,.string ⟨y.q.toArray⟩,.string ⟨y.cost.toArray⟩,.string ⟨y.used.toArray⟩]:Array Value).toList=lcs y from rfl,<-HW6.out])
  go_roundw
  case rel=>exact⟨i+1,j+1,zs.set i y,_,by omega,by omega,by go_num,by go_num,HR6.out,HI2.out,HBV6.out,HK6.out⟩
  case measure=>simp[intOf];omega
theorem QN {Z:Int} {ys:List Lot} {ps:List (List UInt8)} {M N:Nat} (hN:M<=N) (hZ:(canon Z).length<=N) (hq:∀x∈ys,x.q.length<=M) (h:QZ (canon Z) (ys.map (·.q)) ps):∀p∈ps,p.length<=N+N+2:=by
 rcases h with ⟨-,rfl⟩|⟨h0,zs,rfl,hd⟩
 ·exact fun p hp=>by simp at hp
 ·intro p hp;obtain⟨z,hz,rfl⟩:=List.mem_map.1 hp;obtain⟨-,-,-,hw,-⟩:=Tq h0;refine Se.bd (N:=N) (fun u hu=>?_) (Zo hZ) hd z hz
  obtain⟨r,hr,rfl⟩:=List.mem_map.1 hu;obtain⟨y,hy,rfl⟩:=List.mem_map.1 hr;exact⟨(hw _ hr).2,Zo (by have:=hq y hy;omega)⟩
theorem Fg {Z:Int} {ys:List Lot} {ps:List (List UInt8)} (h:QZ (canon Z) (ys.map (·.q)) ps) (hne:ps≠[]):ys.length=ps.length:=by
 rcases h with ⟨-,rfl⟩|⟨h0,zs,rfl,hd⟩
 ·exact absurd rfl hne
 ·rw[List.length_map,hd.sum.2,List.length_map,List.length_map]
def Zbq (f:Fct) (Z G:Int) (w:World) (A3:Option Addr):Prop:=∃be bt,A3=some ⟨be,0,none⟩/\Blk w be #[.int .i64 14,.int .i64 f.day,.string ⟨f.key.toArray⟩,.string ⟨f.ins.toArray⟩,.string ⟨#[]⟩,.string ⟨#[]⟩,.slice (some ⟨bt,0,none⟩) 2 2]/\Blk w bt #[.string ⟨#[99,97,115,104]⟩,.string ⟨List.toArray (canon Z)⟩,.string ⟨#[99,111,115,116]⟩,.string ⟨List.toArray (canon G)⟩]
def Zcd (w':World) (xs:List Lot) (n:Nat) (f:Fct) (Z:Int) (e:Ending):Prop:=∃A' c' A1 n1 c1 A2 n2 c2 A3 n3 c3 ps,e=.returned (.tuple #[.agg #[.slice A' n c',.slice A1 n1 c1,.slice A2 n2 c2,.slice A3 n3 c3],.int .i64 0])/\QZ (canon Z) ((ofL f.ins xs).map (·.q)) ps/\((ps=[]/\Yc w' A' xs/\n3=0)∨(ps≠[]/\Yc w' A' (YF f.ins ps xs)/\n3=1/\Zbq f Z (Ug f.ins ps xs) w' A3))
theorem AX {E0:Int} {w:World} {A:Option Addr} {xs:List Lot} {n:Nat} (c:Nat) {f:Fct} {Z:Int} (hG:GE w) (hL:Yf w A xs n) (hF:OG f) (hZ:pvZ f.pn f.pd (canon (ZL (ofL f.ins xs)))=Z) (hZl:(canon Z).length<=4900)
  (HC:∀w',GE w'->Below w.heap.size w w'->Calls prog 121 #[.agg (Zi f)] w' fun e w''=>(∃E:Int,e=.returned (.int .i64 E)/\E=E0)/\Below w'.heap.size w' w'') (hl:YM xs=0) (hE:Sn E0 f.canc f.kind [13]=0) :
  Calls prog 20 #[.slice A n c,.agg (Zi f)] w fun e w'=>Zcd w' xs n f Z e/\Below w.heap.size w w':=by
 have hn:=hL.len;have hn2:=hL.big;have X20:Hid (Blk ((w.alloc (.cells (Zi f) 48)).alloc (.cells #[.slice none 0 0,.slice none 0 0,.slice none 0 0,.slice none 0 0] 60)) w.heap.size (Zi f)):=(Blk.new w (Zi f) 48).below (Zb _ _);have X3:Hid (Blk (((w.alloc (.cells (Zi f) 48)).alloc (.cells #[.slice none 0 0,.slice none 0 0,.slice none 0 0,.slice none 0 0] 60)).alloc (.cells #[.int .i64 13] 3)) w.heap.size (Zi f)):=((Blk.new w (Zi f) 48).below (Zb _ _)).below (Zb _ _);have R3:Hid (Blk (((w.alloc (.cells (Zi f) 48)).alloc (.cells #[.slice none 0 0,.slice none 0 0,.slice none 0 0,.slice none 0 0] 60)).alloc (.cells #[.int .i64 13] 3)) (w.heap.size+1) #[.slice none 0 0,.slice none 0 0,.slice none 0 0,.slice none 0 0]):=by
  have h:=(Blk.new (w.alloc (.cells (Zi f) 48)) #[.slice none 0 0,.slice none 0 0,.slice none 0 0,.slice none 0 0] 60).below (Zb _ (.cells #[.int .i64 13] 3));rw[show (w.alloc (.cells (Zi f) 48)).heap.size=w.heap.size+1 by simp] at h
  exact h
 have Y3:Blk (((w.alloc (.cells (Zi f) 48)).alloc (.cells #[.slice none 0 0,.slice none 0 0,.slice none 0 0,.slice none 0 0] 60)).alloc (.cells #[.int .i64 13] 3)) (w.heap.size+2) #[.int .i64 13]:=by
  have h:=Blk.new ((w.alloc (.cells (Zi f) 48)).alloc (.cells #[.slice none 0 0,.slice none 0 0,.slice none 0 0,.slice none 0 0] 60)) #[.int .i64 13] 3;rw[show ((w.alloc (.cells (Zi f) 48)).alloc (.cells #[.slice none 0 0,.slice none 0 0,.slice none 0 0,.slice none 0 0] 60)).heap.size=w.heap.size+2 by simp] at h
  exact h
 have hb:Below w.heap.size w (((w.alloc (.cells (Zi f) 48)).alloc (.cells #[.slice none 0 0,.slice none 0 0,.slice none 0 0,.slice none 0 0] 60)).alloc (.cells #[.int .i64 13] 3)):=bto (Zb _ _) (bto (Zb _ _) (Zb _ _));have C1:Hid (Calls prog 52 #[.slice A n c,.agg (Zi f),.slice (some ⟨w.heap.size+2,0,none⟩) 1 1] (((w.alloc (.cells (Zi f) 48)).alloc (.cells #[.slice none 0 0,.slice none 0 0,.slice none 0 0,.slice none 0 0] 60)).alloc (.cells #[.int .i64 13] 3)) _):=Lh (J3 (P:=fun E=>E=E0) (zs:=[13]) c 1 (hG.below hb) (hL.below hb) Y3 (by decide) (fun w' hg hb'=>HC w' hg (bto hb hb')))
 have C2:=Lh (fun (w':World) (hb':Below w.heap.size w w')=>D3 c (hG.below hb') (hL.below hb') hF hZ hZl)
 have C3:=Lh (fun (w':World) (hb':Below w.heap.size w w')=>LU A xs n c w' hn (by omega) (hL.mem.below hb'))
 have HB:=Lh hb;have HE:=Lh hE;have HL0:=Lh hl;have HL:=Lh hL;have HGG:=Lh hG;have HZL:=Lh hZl;clear hG hL hF hZ hZl HC hb Y3 hE hl hn2;go_enter func20,ntmps20;go_wp2_with (refine Zj rfl 48 (.tmp 3) rfl w.heap.size rfl (Zi f) X20.out underlying48 rfl Zs ?_)
 refine C1.out.mono ?_
 rintro e w2 ⟨⟨R,rfl,hR⟩,hb2⟩;have hR0:R=0:=by
  rcases hR with h|⟨-,E,h1,h2⟩
  ·exact absurd HL0.out h.1
  ·rw[h2,show E=E0 from h1,HE.out]
 subst hR0;have X2:=Lh (X3.out.below hb2);have R2:=Lh (R3.out.below hb2);have HB2:=Lh (bto HB.out hb2);have K2:=Lh (C2.out w2 HB2.out);clear C1 C2 hR hb2 X3 R3 HB X20;go_wp2_with (refine Zj rfl 48 (.tmp 3) rfl w.heap.size rfl (Zi f) X2.out underlying48 rfl Zs ?_)
 refine K2.out.mono ?_
 rintro e w6 ⟨AP,ps,np,cq,rfl,hpl,hnp,hst,hpp,hb6⟩;have hb7:=Zb w6 (.cells #[.slice AP np cq] 50);have P7:Hid (Blk (w6.alloc (.cells #[.slice AP np cq] 50)) w6.heap.size #[.slice AP np cq]):=Blk.new _ _ _;have q7:(w6.alloc (.cells #[.slice AP np cq] 50)).cell? ⟨w6.heap.size,0,none⟩=some (.slice AP np cq):=P7.out.c 0;have X7:=Lh (X2.out.below (bto hb6 hb7));have R7:=Lh (R2.out.below (bto hb6 hb7));have HB7:=Lh (bto HB2.out (bto hb6 hb7));have HST:Hid (Vy w6 AP ps):=hst;have HPP:=Lh hpp;have HPL:=Lh hpl;have HNP:=Lh hnp;have l1:w.heap.size+1<w6.heap.size:=(R2.out.below hb6).lt;clear K2 hb6 X2 R2 HB2 hst hpp hpl hnp
 by_cases h0:np=0
 ·subst h0;have hps:ps=[]:=List.length_eq_zero_iff.1 HPL.out;have HPS:=Lh hps;have K3:=Lh (C3.out _ HB7.out);clear hps hb7 C3 HNP;go_wp2_with fail
  refine K3.out.mono ?_
  rintro e w8 ⟨A',c',rfl,hla,hfr,hb8⟩;have R8:=Lh (R7.out.below hb8);have HB8:=Lh (bto HB7.out hb8);have l8:=hb8.size;have l9:=R7.out.lt;obtain⟨ty,hR⟩:=R8.out;obtain⟨r1,r2⟩:=VF (cs:=#[.slice A' n c',.slice none 0 0,.slice none 0 0,.slice none 0 0]) hR rfl;have HTH:=Lh r1;obtain⟨wE,hwE⟩:∃wE,wE=w8.setCells (w.heap.size+1) 0 (#[.slice A' n c',.slice none 0 0,.slice none 0 0,.slice none 0 0]:Array Value).toList:=⟨_,rfl⟩
  have HWE:=Lh hwE;rw[<-hwE] at r2;have HRR:=Lh r2.new;have HLE:=Lh (hla.turn r2 (fun g o h e=>by have:=hfr g o (by omega) e;omega))
  have HBE:Hid (Below w.heap.size w wE):=by rw[hwE];exact Lib.below_setCells _ (by omega) _ _ HB8.out
  have HI:Hid ((prog.info? 60).map (·.size)=some (#[.slice A' n c',.slice none 0 0,.slice none 0 0,.slice none 0 0]:Array Value).size):=Xu
  have HM:Hid ((#[.slice A' n c',.slice none 0 0,.slice none 0 0,.slice none 0 0]:Array Value).all (·.oneCell')=true):=all_oneCell_toArray (cs:=[.slice A' n c',.slice none 0 0,.slice none 0 0,.slice none 0 0]) (fun v hv=>by simp only[List.mem_cons,List.not_mem_nil,or_false] at hv;rcases hv with rfl|rfl|rfl|rfl<;>rfl)
  clear K3 r1 r2 hR hwE hla hfr hb8 l8 l9 R7 R8 HB8 q7;go_wp2_with (refine wpList_store_mid rfl 60 (.tmp 4) (.tmp 30) rfl (w.heap.size+1) 0 #[.slice A' n c',.slice none 0 0,.slice none 0 0,.slice none 0 0] rfl rfl HTH.out HI.out HM.out ?_;rw[<-HWE.out]);refine bodyPost_ret (v:=.tuple #[.agg #[.slice A' n c',.slice none 0 0,.slice none 0 0,.slice none 0 0],.int .i64 0]) ?_ rfl ?_
  ·exact results_cell_tmp Tryz.f20 4 5 60 #[.slice A' n c',.slice none 0 0,.slice none 0 0,.slice none 0 0] (.int .i64 0) rfl rfl rfl (Z9 HRR.out) underlying60 rfl HI.out
  exact⟨⟨A',c',_,_,_,_,_,_,_,_,_,ps,rfl,HPP.out,.inl ⟨HPS.out,HLE.out,rfl⟩⟩,HBE.out⟩
 have hps:ps≠[]:=fun e=>h0 (by rw[<-HPL.out,e];rfl)
 have HPS:=Lh hps;have e1:decide (np=0)=false:=Df h0;have e2:((np:Int)==0)=false:=by rw[Bn];omega
 have e3:decide ((np:Int)=0)=false:=Df (by omega)
 have HCT:Hid ((ofL f.ins xs).length=np):=by show _=_;rw[Fg HPP.out hps,HPL.out]
 have HN0:Hid (0<n):=by
  show _<_;have h1:=HCT.out;have h2:(ofL f.ins xs).length<=xs.length:=List.length_filter_le _ _;omega
 obtain⟨w7,hw7⟩:∃w7,w7=w6.alloc (.cells #[.slice AP np cq] 50):=⟨_,rfl⟩
 have HW7:=Lh hw7;have l7:w7.heap.size=w6.heap.size+1:=by rw[hw7];simp
 rw[<-hw7] at P7 q7 X7 R7 HB7 hb7;have O8:Hid (Blk (w7.alloc (.cells #[.slice none 0 0,.slice none 0 0,.slice none 0 0,.slice none 0 0] 60)) w7.heap.size #[.slice none 0 0,.slice none 0 0,.slice none 0 0,.slice none 0 0]):=Blk.new _ _ _;have hb8:=Zb w7 (.cells #[.slice none 0 0,.slice none 0 0,.slice none 0 0,.slice none 0 0] 60);have K0:=Lh (Zcu 0 (by decide) (by decide))
 have HB8:=Lh (bto HB7.out hb8);rw[l7] at O8;clear hps h0 hw7 C3;go_wp2_with fail;rw[<-HW7.out];clear HW7;go_wp2_with fail
 refine (K0.out.of HGG.out.g HB8.out).mono ?_
 rintro e w9 ⟨rfl,hb9⟩;have hb89:=bto hb8 hb9;have X9:=Lh (X7.out.below hb89);have R9:=Lh (R7.out.below hb89);have P9:=Lh (P7.out.below hb89);have O9:=Lh (O8.out.below hb9);have HB9:=Lh (bto HB7.out hb89);have HST9:=Lh (HST.out.below (bto hb7 hb89));have l9:w7.heap.size+1<=w9.heap.size:=by have:=hb9.size;simp at this;exact this
 clear K0 X7 R7 P7 O8 HB7 HB8 hb8 hb9 hb89 hb7 e1 e2 e3 q7;have hbA:=Zb w9 (.cells #[.string ⟨List.toArray (canon 0)⟩] 32);have G10:Hid (Blk (w9.alloc (.cells #[.string ⟨List.toArray (canon 0)⟩] 32)) w9.heap.size #[.string ⟨List.toArray (canon 0)⟩]):=Blk.new _ _ _;obtain⟨w10,hw10⟩:∃w10,w10=w9.alloc (.cells #[.string ⟨List.toArray (canon 0)⟩] 32):=⟨_,rfl⟩
 have HW10:=Lh hw10;have l10:w10.heap.size=w9.heap.size+1:=by rw[hw10];simp
 rw[<-hw10] at hbA G10;have X10:=Lh (X9.out.below hbA);have R10:=Lh (R9.out.below hbA);have HB10:=Lh (bto HB9.out hbA);have q10:w10.cell? ⟨w.heap.size,5,none⟩=some (.string ⟨f.ins.toArray⟩):=X10.out.c 5;have HK:Hid (XO w w6.heap.size w9.heap.size (w6.heap.size+1) w.heap.size w10.heap.size AP):=by
  refine⟨⟨by omega,by omega,by omega,by omega⟩,⟨by omega,by omega,by omega,by omega⟩,⟨by omega,by omega⟩,⟨by omega,by omega,by omega⟩,fun b o e=>?_⟩
  obtain⟨p,hp⟩:∃p,ps[0]?=some p:=⟨_,List.getElem?_eq_getElem (by have:=HPL.out;have h1:=HPS.out;exact List.length_pos_iff.2 h1)⟩
  obtain⟨b',o',e',h1,-⟩:=HST.out 0 p hp;rw[e] at e';cases e';omega
 have HV:Hid (ZR w w6.heap.size w9.heap.size (w6.heap.size+1) w.heap.size w10.heap.size AP np cq ps f 0 0 0 (.slice none 0 0) (.slice none 0 0) w10):=
  ⟨HB10.out,P9.out.below hbA,HST9.out.below hbA,G10.out,O9.out.below hbA,X10.out,⟨0,[],Nl _,World.ownsRow_nil _ _ _ 10⟩,⟨0,[],Nl _,World.ownsRow_nil _ _ _ 6⟩,fun g e=>(by cases e),Nl _⟩
 have KC:=Lh (AW (n:=n) (e:=9802) c HGG.out HK.out HV.out (HL.out.below HB10.out) HN0.out HPL.out (by decide) (QN (M:=1000) (N:=4900) (by decide) HZL.out (fun x hx=>(HL.out.sm x (List.mem_filter.1 hx).1).q) HPP.out) (fun x hx=>by have:=(HL.out.sm x hx).cost;omega) (Nat.le_of_eq HCT.out))
 clear hw10 hbA X9 R9 P9 O9 HB9 HST9 G10 HV HST
 go_upto_region 9 with fail
 rw[<-HW10.out];clear HW10;go_wp2_with fail
 refine KC.out.mono ?_
 rintro e w11 ⟨g,c',B,v1,v2,rfl,hg,hgB,hrow,hv,hkp⟩;obtain⟨m1,cs1,-,ho1⟩:=hv.o1;obtain⟨m2,cs2,-,ho2⟩:=hv.o2;obtain⟨A1,c1,rfl⟩:=Vm ho1;obtain⟨A2,c2,rfl⟩:=Vm ho2;obtain⟨G,hGe⟩:∃G,G=Ug f.ins ps xs:=⟨_,rfl⟩
 rw[<-hGe] at hv;have HGE:=Lh hGe;obtain⟨bo,hbo⟩:∃bo,bo=w6.heap.size+1:=⟨_,rfl⟩
 obtain⟨bg,hbg⟩:∃bg,bg=w9.heap.size:=⟨_,rfl⟩
 rw[<-hbo] at hv hkp ⊢;rw[<-hbg] at hv hkp ⊢;have m0:w.heap.size+1<w10.heap.size:=by omega
 have mo:w.heap.size+1<bo/\bo<bg/\bg<w10.heap.size:=by omega
 have HM0:=Lh (And.intro m0 mo);have HGW:=Lh hg;clear KC hGe ho1 ho2 l1 l7 l9 l10 hbo hbg X10 HB10 q10 HK HCT HPL HN0 HNP hg hgB;have R11:Hid (Blk w11 (w.heap.size+1) #[.slice none 0 0,.slice none 0 0,.slice none 0 0,.slice none 0 0]):=R10.out.keep (hkp.block _ m0 (by omega) (by omega))
 have qO:w11.cell? ⟨bo,0,none⟩=some (.slice none 0 0):=hv.out.c 0;have fO:w11.frozen? ⟨bo,0,none⟩=false:=hv.out.f 0;obtain⟨t11,hO11⟩:=hv.out;have ht:=Wt w11 bo 0 _ (.slice (some ⟨g,0,none⟩) n c') t11 hO11;obtain⟨w12,hw12⟩:∃w12,w12=w11.setCell ⟨bo,0,none⟩ (.slice (some ⟨g,0,none⟩) n c'):=⟨_,rfl⟩
 have HW12:=Lh hw12;have hB12:Below w.heap.size w w12:=by rw[hw12];exact Yv hv.below (by omega) 0 _
 rw[<-hw12] at ht;have l12:w10.heap.size<=w12.heap.size:=by rw[ht.size];exact hkp.size
 have O12:Hid (Blk w12 bo #[.slice (some ⟨g,0,none⟩) n c',.slice A1 m1 c1,.slice A2 m2 c2,.slice none 0 0]):=⟨t11,ht.new⟩;have X12:=Lh (hv.fct.keep (ht.old _ (by omega)))
 have G12:=Lh (hv.giv.keep (ht.old _ (by omega)))
 have R12:=Lh (R11.out.keep (ht.old _ (by omega)))
 have L12:=Lh (hrow.keepH (ht.old _ (by have:=HGW.out;omega)))
 have HB12:=Lh hB12;have qg:w12.cell? ⟨bg,0,none⟩=some (.string ⟨List.toArray (canon G)⟩):=G12.out.c 0;have HL12:=Lh l12;clear hw12 hB12 ht hO11 hrow hv hkp R10 R11 l12;have hb13:=Zb w12 (.cells #[.string ⟨#[99,97,115,104]⟩,.string ⟨List.toArray (canon Z)⟩,.string ⟨#[99,111,115,116]⟩,.string ⟨List.toArray (canon G)⟩] 68);have T13:Hid (Blk (w12.alloc (.cells #[.string ⟨#[99,97,115,104]⟩,.string ⟨List.toArray (canon Z)⟩,.string ⟨#[99,111,115,116]⟩,.string ⟨List.toArray (canon G)⟩] 68)) w12.heap.size #[.string ⟨#[99,97,115,104]⟩,.string ⟨List.toArray (canon Z)⟩,.string ⟨#[99,111,115,116]⟩,.string ⟨List.toArray (canon G)⟩]):=Blk.new _ _ _;have KE:=Lh (Hm (w:=w12.alloc (.cells #[.string ⟨#[99,97,115,104]⟩,.string ⟨List.toArray (canon Z)⟩,.string ⟨#[99,111,115,116]⟩,.string ⟨List.toArray (canon G)⟩] 68)) (f:=f) (kd:=14) (A:=some ⟨w12.heap.size,0,none⟩) (n:=2) (c:=2));have HB13:=Lh hb13;clear hb13
 go_upto_region 10 with fail
 rw[<-HW12.out];clear HW12 qO fO;go_wp2_with (refine Zj rfl 48 (.tmp 3) rfl w.heap.size rfl (Zi f) X12.out underlying48 rfl Zs ?_)
 refine KE.out.mono ?_
 rintro e w14 ⟨⟨be,rfl,hbe,hbk⟩,hb14⟩;have hb1214:=bto HB13.out hb14;have O14:=Lh (O12.out.below hb1214);have R14:=Lh (R12.out.below hb1214);have T14:=Lh (T13.out.below hb14);have L14:=Lh (L12.out.below hb1214);have HB14:=Lh (bto HB12.out hb1214);have hbe':w12.heap.size+1<=be:=by have:=hbe;simp at this;exact this
 have l12:=HL12.out;have hm:=HM0.out;have hgw:=HGW.out;have q3:w14.cell? ⟨bo,3,none⟩=some (.slice none 0 0):=O14.out.c 3;have f3:w14.frozen? ⟨bo,3,none⟩=false:=O14.out.f 3;obtain⟨t14,hO14⟩:=O14.out;have ht:=Wt w14 bo 3 _ (.slice (some ⟨be,0,none⟩) 1 1) t14 hO14;obtain⟨w15,hw15⟩:∃w15,w15=w14.setCell ⟨bo,3,none⟩ (.slice (some ⟨be,0,none⟩) 1 1):=⟨_,rfl⟩
 have HW15:=Lh hw15;have hB15:Below w.heap.size w w15:=by rw[hw15];exact Yv HB14.out (by omega) 3 _
 rw[<-hw15] at ht;have O15:Hid (Blk w15 bo #[.slice (some ⟨g,0,none⟩) n c',.slice A1 m1 c1,.slice A2 m2 c2,.slice (some ⟨be,0,none⟩) 1 1]):=⟨t14,ht.new⟩;have R15:=R14.out.keep (ht.old _ (by omega))
 have T15:=T14.out.keep (ht.old _ (by omega))
 have K15:=hbk.keep (ht.old _ (by omega))
 have L15:=L14.out.keepH (ht.old _ (by omega))
 obtain⟨ty,hR⟩:=R15;obtain⟨r1,r2⟩:=VF (cs:=#[.slice (some ⟨g,0,none⟩) n c',.slice A1 m1 c1,.slice A2 m2 c2,.slice (some ⟨be,0,none⟩) 1 1]) hR rfl;have HTH:=Lh r1;obtain⟨wE,hwE⟩:∃wE,wE=w15.setCells (w.heap.size+1) 0 (#[.slice (some ⟨g,0,none⟩) n c',.slice A1 m1 c1,.slice A2 m2 c2,.slice (some ⟨be,0,none⟩) 1 1]:Array Value).toList:=⟨_,rfl⟩
 have HWE:=Lh hwE;rw[<-hwE] at r2;have HRR:=Lh r2.new;have HEND:Hid (Yc wE (some ⟨g,0,none⟩) (YF f.ins ps xs)/\Zbq f Z G wE (some ⟨be,0,none⟩)):=⟨(L15.keepH (r2.old _ (by omega))).lotAt,be,w12.heap.size,rfl,K15.keep (r2.old _ (by omega)),T15.keep (r2.old _ (by omega))⟩
 have HBE:Hid (Below w.heap.size w wE):=by rw[hwE];exact Lib.below_setCells _ (by omega) _ _ hB15
 have HI:Hid ((prog.info? 60).map (·.size)=some (#[.slice (some ⟨g,0,none⟩) n c',.slice A1 m1 c1,.slice A2 m2 c2,.slice (some ⟨be,0,none⟩) 1 1]:Array Value).size):=Xu
 have HMM:Hid ((#[.slice (some ⟨g,0,none⟩) n c',.slice A1 m1 c1,.slice A2 m2 c2,.slice (some ⟨be,0,none⟩) 1 1]:Array Value).all (·.oneCell')=true):=all_oneCell_toArray (cs:=[.slice (some ⟨g,0,none⟩) n c',.slice A1 m1 c1,.slice A2 m2 c2,.slice (some ⟨be,0,none⟩) 1 1]) (fun v hv=>by simp only[List.mem_cons,List.not_mem_nil,or_false] at hv;rcases hv with rfl|rfl|rfl|rfl<;>rfl)
 clear KE hbe hbk hb14 hb1214 R14 T14 L14 HB14 hbe' l12 hm hgw hO14 ht hw15 hB15 T15 K15 L15 hR r1 r2 hwE T13 L12 R12 G12 HB12 HB13 HL12 HM0 HGW O12 O14
 go_upto_region 11 with fail
 rw[<-HW15.out];clear HW15 q3 f3 qg;go_wp2_with (first|(refine Zj rfl 60 (.tmp 9) rfl bo rfl #[.slice (some ⟨g,0,none⟩) n c',.slice A1 m1 c1,.slice A2 m2 c2,.slice (some ⟨be,0,none⟩) 1 1] O15.out underlying60 rfl HI.out ?_)|(refine wpList_store_mid rfl 60 (.tmp 4) (.tmp 46) rfl (w.heap.size+1) 0 #[.slice (some ⟨g,0,none⟩) n c',.slice A1 m1 c1,.slice A2 m2 c2,.slice (some ⟨be,0,none⟩) 1 1] rfl rfl HTH.out HI.out HMM.out ?_;rw[<-HWE.out]))
 refine bodyPost_ret (v:=.tuple #[.agg #[.slice (some ⟨g,0,none⟩) n c',.slice A1 m1 c1,.slice A2 m2 c2,.slice (some ⟨be,0,none⟩) 1 1],.int .i64 0]) ?_ rfl ?_
 ·exact results_cell_tmp Tryz.f20 4 5 60 #[.slice (some ⟨g,0,none⟩) n c',.slice A1 m1 c1,.slice A2 m2 c2,.slice (some ⟨be,0,none⟩) 1 1] (.int .i64 0) rfl rfl rfl (Z9 HRR.out) underlying60 rfl HI.out
 exact⟨⟨_,c',A1,m1,c1,A2,m2,c2,_,1,1,ps,rfl,HPP.out,.inr ⟨HPS.out,HEND.out.1,rfl,by rw[<-HGE.out];exact HEND.out.2⟩⟩,HBE.out⟩
end Go.Proofs.YtpieeldbamklkaaGreatDoor
