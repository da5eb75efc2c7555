/- Texts put together: Bv Kj Kk Kl Bp Bf Bj Bn Km. -/
import Derived.Test.YtpieeldbamklkaaGreatDoorW10
set_option maxHeartbeats 16000000
set_option maxRecDepth 100000
namespace Go.Proofs.YtpieeldbamklkaaGreatDoor
open Go.RowKit
section
variable {P:Program} {md:Region.Mode} {ops:Array Oper} {Q:Exit->Act->World->Prop}
def cntF:List Bool->Nat
 | []=>0
 | b::l=>(if b then 0 else 1)+cntF l
theorem Lp:∀(l:List Bool) (i:Nat),l[i]?=some false->cntF (l.set i true)+1=cntF l
 | [],_,h=>by simp at h
 | b::l,0,h=>by
  have:b=false:=by simpa using h
  subst this;simp[cntF];omega
 | b::l,i+1,h=>by
  have h1:=Lp l i (by simpa using h)
  simp only[List.set_cons_succ,cntF];omega
theorem Nk:∀(l:List Bool),cntF l=0->∀i:Nat,i<l.length->l[i]?=some true
 | [],_,_,h=>by simp at h
 | b::l,h,0,_=>by
  cases b with
  | true=>rfl
  | false=>simp[cntF] at h
 | b::l,h,i+1,hi=>by
  rw[List.getElem?_cons_succ];exact Nk l (by simp only[cntF] at h;omega) i (by simpa using hi)
theorem Jm (hbk:∀(i:Nat) (o:Oper),ops[i]?=some o->∀e∈o.after,Region.binds md e=true->e.on<i) {listed:Array Bool} (hs:listed.size=ops.size) (h:Region.ready md ops listed=[]):∀i,i<ops.size->listed.getD i false=true:=by
 intro i
 induction i using Nat.strongRecOn with
 | _ i ih=>
  intro hi;cases hl:listed.getD i false with
  | true=>rfl
  | false=>
   exfalso
   have ho:ops[i]?=some ops[i]:=Array.getElem?_eq_getElem hi
   have hm:i∈Region.ready md ops listed:=mem_ready.2 ⟨by
    rw[Array.getD_eq_getD_getElem?,Array.getElem?_eq_getElem (by omega)] at hl ⊢
    exact hl,_,ho,fun e he hb=>ih e.on (hbk i _ ho e he hb) (by have:=hbk i _ ho e he hb;omega)⟩
   rw[h] at hm;cases hm
theorem Qo {I:Array Bool->Act->World->Prop} (hbk:∀(i:Nat) (o:Oper),ops[i]?=some o->∀e∈o.after,Region.binds md e=true->e.on<i)
  (hend:∀listed a w,(∀i,i<ops.size->listed.getD i false=true)->I listed a w->Q .normal a w)
  (hstep:∀listed a w i o,I listed a w->ops[i]?=some o->listed.getD i true=false->(∀e∈o.after,Region.binds md e=true->listed.getD e.on false=true)->wpOp P ops Q i (I (listed.setIfInBounds i true)) a w) :
  ∀(fuel:Nat) (listed:Array Bool) (a:Act) (w:World),listed.size=ops.size->cntF listed.toList<=fuel->I listed a w->wpAny P md ops Q fuel listed a w
 | 0,listed,a,w,hs,hc,hI=>by
  have hall:∀i,i<ops.size->listed.getD i false=true:=fun i hi=>by
   have h1:=Nk listed.toList (by omega) i (by rw[Array.length_toList];omega)
   rw[Array.getElem?_toList] at h1;rw[Array.getD_eq_getD_getElem?,h1];rfl
  refine⟨?_,hend _ _ _ hall hI⟩;apply List.eq_nil_iff_forall_not_mem.2;intro j hj;obtain⟨h1,o,ho,-⟩:=mem_ready.1 hj;have hjs:=(Ag.1 ho).1;have h2:=hall j hjs;rw[Array.getD_eq_getD_getElem?,Array.getElem?_eq_getElem (by omega)] at h1 h2
  simp at h1 h2;rw[h1] at h2;cases h2
 | fuel+1,listed,a,w,hs,hc,hI=>by
  refine⟨fun h0=>hend _ _ _ (Jm hbk hs h0) hI,fun i hi=>?_⟩
  obtain⟨h1,o,ho,h2⟩:=mem_ready.1 hi;have hjs:=(Ag.1 ho).1;refine wpOp_mono (fun a' w' hI'=>?_) (hstep listed a w i o hI ho h1 h2)
  refine Qo hbk hend hstep fuel _ a' w' (by simpa using hs) ?_ hI'
  have h3:listed.toList[i]?=some false:=by
   rw[Array.getElem?_toList];rw[Array.getD_eq_getD_getElem?,Array.getElem?_eq_getElem (by omega)] at h1
   rw[Array.getElem?_eq_getElem (by omega)]
   simpa using h1
  have h4:=Lp listed.toList i h3;rw[Array.toList_setIfInBounds];omega
theorem Ou:∀n:Nat,cntF (List.replicate n false)=n
 | 0=>rfl
 | n+1=>by
  rw[List.replicate_succ,cntF,Ou n];simp;omega
theorem OO {id:Nat} {a:Act} {w:World} {I:Array Bool->Act->World->Prop} (hm:P.follows .mixedOrders=true) (hbk:∀(i:Nat) (o:Oper),ops[i]?=some o->∀e∈o.after,Region.binds .any e=true->e.on<i)
  (h0:I (Array.replicate ops.size false) a { w with drawn:=w.drawn+1 })
  (hend:∀listed a w,(∀i,i<ops.size->listed.getD i false=true)->I listed a w->Q .normal a w)
  (hstep:∀listed a w i o,I listed a w->ops[i]?=some o->listed.getD i true=false->(∀e∈o.after,Region.binds .any e=true->listed.getD e.on false=true)->wpOp P ops Q i (I (listed.setIfInBounds i true)) a w):(Code.region id ops true).wp P Q a w:=
 wp_region_any hm (Qo hbk hend hstep ops.size _ a _ (by simp) (by rw[Array.toList_replicate,Ou];exact Nl _) h0)
end
open Go.Shelf Num
section
variable {P:Program} {w:World} {mty kt et:TypeId} {d:TypeDesc} {r clock:Nat} {es:Array MapEntry} {key val:Value}
theorem Iv (hm:P.underlying mty=some (.map kt et)) (hd:P.underlying kt=some d) (hb:w.heap[r]?=some (.map es clock)) (hs:MapKept.Stamped es clock) (hks:∀x∈es.toList,MapKept.IsKey d x.key) (hk:MapKept.IsKey d key) :
  ∃es' clock',(Instr.mapUpdate mty (.map (some r)) key val).run P w=.ok () (ChangeMaps.setBlock w r (.map es' clock'))/\MapKept.Stamped es' clock'/\(∀x∈es'.toList,(x.key=key/\x.val=val)∨x∈es.toList)/\(∀x∈es.toList,∃y∈es'.toList,y.key=x.key)/\∃y∈es'.toList,y.key=key:=by
 rcases MapKept.findNow_spec hk es.toList 0 hks with ⟨h1,h2⟩|⟨j,e,h1,h2,h3⟩
 ·refine⟨es.push { key,val,born:=clock },clock+1,UP hm hd hk hb h1,MapKept.stamped_push hs h2,fun x hx=>?_,fun x hx=>⟨x,by simp[Array.toList_push,hx],rfl⟩,⟨_,by rw[Array.toList_push];exact List.mem_append_right _ (List.mem_singleton.2 rfl),rfl⟩⟩
  rw[Array.toList_push,List.mem_append,List.mem_singleton] at hx;rcases hx with hx|rfl
  ·exact .inr hx
  ·exact .inl ⟨rfl,rfl⟩
 ·have hj:es[j]?=some e:=by simpa using h2
  have hjl:=(Ag.1 hj).1;have hrun:(Instr.mapUpdate mty (.map (some r)) key val).run P w=.ok () (ChangeMaps.setBlock w r (.map (es.modify j fun e=>{ e with key:=key,val:=val }) clock)):=by
   simp[Instr.mapUpdate,run_underlying hm,MapKept.run_getObj_map hb,MapKept.run_checkKey hd hk,MapKept.run_findKey hd h1,hj,h3,MapKept.run_keyThatStays hk,MapKept.run_setObj_map _ hb,Result.andThen,ChangeMaps.setBlock]
  have hat:∀i:Nat,(es.modify j fun e=>{ e with key:=key,val:=val })[i]?=if j=i then (es[i]?).map (fun e=>({ e with key:=key,val:=val }:MapEntry)) else es[i]?:=fun i=>Array.getElem?_modify
  have hkey:∀e',es[j]?=some e'->({ e' with key:=key,val:=val }:MapEntry).key=e'.key:=fun e' he'=>by rw[hj] at he';cases he';exact h3.symm
  refine⟨_,_,hrun,MapKept.stamped_modify hs _ _ (fun _ _=>rfl) (fun e' _ he'=>hkey e' he'),fun x hx=>?_,fun x hx=>?_,?_⟩
  ·obtain⟨i,hi⟩:=List.mem_iff_getElem?.1 hx;rw[Array.getElem?_toList,hat i] at hi
   by_cases hij:j=i
   ·rw[if_pos hij,<-hij,hj] at hi;cases hi;exact .inl ⟨rfl,rfl⟩
   ·rw[if_neg hij] at hi;exact .inr (by rw[<-Array.getElem?_toList] at hi;exact Lm hi)
  ·obtain⟨i,hi⟩:=List.mem_iff_getElem?.1 hx;rw[Array.getElem?_toList] at hi
   by_cases hij:j=i
   ·subst hij;rw[hj] at hi;cases hi;refine⟨{ e with key:=key,val:=val },?_,h3.symm⟩
    have:=hat j
    rw[if_pos rfl,hj] at this;rw[<-Array.getElem?_toList] at this;exact Lm this
   ·refine⟨x,?_,rfl⟩
    have:=hat i
    rw[if_neg hij,hi,<-Array.getElem?_toList] at this;exact Lm this
  ·refine⟨{ e with key:=key,val:=val },?_,rfl⟩
   have:=hat j
   rw[if_pos rfl,hj,<-Array.getElem?_toList] at this;exact Lm this
end
structure GrM (w w':World):Prop where
 size:w.heap.size<=w'.heap.size
 block:∀(b:Nat) (ob:Obj),w.heap[b]?=some ob->(∀es c,ob≠.map es c)->w'.heap[b]?=some ob
theorem GrM.of_below {w w':World} (h:Below w.heap.size w w'):GrM w w':=⟨h.size,fun _ _ hb _=>Zw hb h⟩
theorem GrM.upd {w:World} {b:Nat} {es:Array MapEntry} {c:Nat} (h:w.heap[b]?=some (.map es c)) (o:Obj):GrM w (ChangeMaps.setBlock w b o):=⟨by simp[ChangeMaps.setBlock],fun b' ob hb hn=>by
 have hne:b'≠b:=fun e=>by rw[e,h] at hb;exact hn es c (Option.some.inj hb).symm
 exact (Yx hne).trans hb⟩
theorem Blk.gr {w w':World} {b:Nat} {cs:Array Value} (h:Blk w b cs) (hg:GrM w w'):Blk w' b cs:=by
 obtain⟨t,h⟩:=h;exact⟨t,hg.block _ _ h (fun _ _ e=>by cases e)⟩
def Yh (w:World) (u:Value):Prop:=∃p q b1 b2,u=.func (.func 286) #[] #[.pointer (some ⟨b1,0,none⟩),.pointer (some ⟨b2,0,none⟩)]/\Blk w b1 #[.bool p]/\Blk w b2 #[.bool q]
theorem Yh.gr {w w':World} {u:Value} (h:Yh w u) (hg:GrM w w'):Yh w' u:=by
 obtain⟨p,q,b1,b2,e,h1,h2⟩:=h;exact⟨p,q,b1,b2,e,h1.gr hg,h2.gr hg⟩
theorem Ux.any {w:World} {r:Nat} {u:Value} {p q:Bool} (h:Ux w r u p q):Yh w u:=by
 obtain⟨b1,b2,e,h1,h2,-,-⟩:=h.is;exact⟨p,q,b1,b2,e,h1,h2⟩
def Vt (w:World) (b:Nat):Prop:=∃es c,w.heap[b]?=some (.map es c)/\MapKept.Stamped es c/\∀e∈es.toList,(∃k:Nat,k<13/\e.key=.int .i64 (k:Int))/\Yh w e.val
def YL (w:World) (b i:Nat):Prop:=∃es c,w.heap[b]?=some (.map es c)/\∃e∈es.toList,e.key=.int .i64 (i:Int)
theorem Vt.below {w w':World} {b:Nat} (h:Vt w b) (hb:Below w.heap.size w w'):Vt w' b:=by
 obtain⟨es,c,h1,h2,h3⟩:=h;exact⟨es,c,Zw h1 hb,h2,fun e he=>⟨(h3 e he).1,(h3 e he).2.gr (GrM.of_below hb)⟩⟩
theorem Vt.other {w:World} {b b':Nat} {es:Array MapEntry} {c:Nat} {o:Obj} (h:Vt w b') (hb:w.heap[b]?=some (.map es c)) (hn:b'≠b):Vt (ChangeMaps.setBlock w b o) b':=by
 obtain⟨es',c',h1,h2,h3⟩:=h;exact⟨es',c',(Yx hn).trans h1,h2,fun e he=>⟨(h3 e he).1,(h3 e he).2.gr (GrM.upd hb o)⟩⟩
theorem YL.below {w w':World} {b i:Nat} (h:YL w b i) (hb:Below w.heap.size w w'):YL w' b i:=by
 obtain⟨es,c,h1,h2⟩:=h;exact⟨es,c,Zw h1 hb,h2⟩
theorem YL.upd {w:World} {b b' i:Nat} {es es':Array MapEntry} {c c':Nat} (h:YL w b' i) (hb:w.heap[b]?=some (.map es c)) (hk:∀x∈es.toList,∃y∈es'.toList,y.key=x.key):YL (ChangeMaps.setBlock w b (.map es' c')) b' i:=by
 obtain⟨es1,c1,h1,e,he,hk1⟩:=h
 by_cases hn:b'=b
 ·subst hn;rw[hb] at h1;cases h1;obtain⟨y,hy,hk2⟩:=hk e he;exact⟨es',c',Wn (Ag.1 hb).1,y,hy,hk2.trans hk1⟩
 ·exact⟨es1,c1,(Yx hn).trans h1,e,he,hk1⟩
def Qp:List Nat:=[0,1,2,3,10,11,12]
def KPg (w:World) (v:Value):Prop:=∃word cls H M code,v=.agg (ZA word cls H M code)/\H.length=13/\∀i:Nat,H[i]?=some true->i∈Qp∨∃b,M=some b/\Vt w b/\YL w b i
def KX (bt:Nat) (v:Value):Prop:=∃word cls H code,v=.agg (ZA word cls H (some bt) code)/\QJ H (fun i=>i∈[4,5,6]∨i∈[0,10])/\∀i,(i∈[4,5,6]∨i∈[0,10])->H[i]?=some true
def KP (bt k:Nat) (w:World) (v:Value):Prop:=KPg w v/\(k=4->KX bt v)
theorem KPg.below {w w':World} {v:Value} (h:KPg w v) (hb:Below w.heap.size w w'):KPg w' v:=by
 obtain⟨word,cls,H,M,code,e,h1,h2⟩:=h;refine⟨word,cls,H,M,code,e,h1,fun i hi=>(h2 i hi).imp id ?_⟩
 rintro⟨b,e2,h3,h4⟩;exact⟨b,e2,h3.below hb,h4.below hb⟩
def Qq (bt:Nat) (w:World) (b:Nat):Prop:=∃es c,w.heap[b]?=some (.map es c)/\MapKept.Stamped es c/\∀e∈es.toList,∃k:Nat,e.key=.int .i64 (k:Int)/\KP bt k w e.val
theorem Qq.below {bt:Nat} {w w':World} {b:Nat} (h:Qq bt w b) (hb:Below w.heap.size w w'):Qq bt w' b:=by
 obtain⟨es,c,h1,h2,h3⟩:=h;refine⟨es,c,Zw h1 hb,h2,fun e he=>?_⟩
 obtain⟨k,hk,h4,h5⟩:=h3 e he;exact⟨k,hk,h4.below hb,h5⟩
theorem KPg.agg {w:World} {v:Value} (h:KPg w v) (hl:Yh w v):False:=by
 obtain⟨word,cls,H,M,code,e,-⟩:=h;obtain⟨p,q,b1,b2,e2,-⟩:=hl;rw[e] at e2;cases e2
theorem KPg.num {w:World} {v:Value} {b:Nat} {es es':Array MapEntry} {c c':Nat} (h:KPg w v) (hb:w.heap[b]?=some (.map es c)) (hk:∀x∈es.toList,∃y∈es'.toList,y.key=x.key) (hn:Vt (ChangeMaps.setBlock w b (.map es' c')) b):KPg (ChangeMaps.setBlock w b (.map es' c')) v:=by
 obtain⟨word,cls,H,M,code,e,h1,h2⟩:=h;refine⟨word,cls,H,M,code,e,h1,fun i hi=>(h2 i hi).imp id ?_⟩
 rintro⟨b',e2,h3,h4⟩;refine⟨b',e2,?_,h4.upd hb hk⟩
 by_cases hbb:b'=b
 ·rw[hbb];exact hn
 ·exact h3.other hb hbb
theorem KPg.out {bt:Nat} {w:World} {v:Value} {b:Nat} {es':Array MapEntry} {c':Nat} (h:KPg w v) (ho:Qq bt w b):KPg (ChangeMaps.setBlock w b (.map es' c')) v:=by
 obtain⟨es,c,hb,-,ho⟩:=ho;obtain⟨word,cls,H,M,code,e,h1,h2⟩:=h;refine⟨word,cls,H,M,code,e,h1,fun i hi=>(h2 i hi).imp id ?_⟩
 rintro⟨b',e2,h3,h4⟩;have hne:b'≠b:=fun e=>by
  subst e;obtain⟨es1,c1,g1,e1,he1,-⟩:=h4;rw[hb] at g1;cases g1;obtain⟨k,-,hp,-⟩:=ho e1 he1;obtain⟨es2,c2,g2,-,g3⟩:=h3;rw[hb] at g2;cases g2;exact hp.agg (g3 e1 he1).2
 obtain⟨es1,c1,g1,g2⟩:=h4;exact⟨b',e2,h3.other hb hne,es1,c1,(Yx hne).trans g1,g2⟩
theorem Vt.ins {P:Program} {mty kt et:TypeId} {w:World} {b i:Nat} {u:Value} (h:Vt w b) (hi:i<13) (hu:Yh w u) (hm:P.underlying mty=some (.map kt et)) (hd:P.underlying kt=some (.int .i64)) :
  ∃es es' c c',w.heap[b]?=some (.map es c)/\(Instr.mapUpdate mty (.map (some b)) (.int .i64 (i:Int)) u).run P w=.ok () (ChangeMaps.setBlock w b (.map es' c'))/\Vt (ChangeMaps.setBlock w b (.map es' c')) b/\(∀x∈es.toList,∃y∈es'.toList,y.key=x.key):=by
 obtain⟨es,c,h1,h2,h3⟩:=h;obtain⟨es',c',hr,hs,ha,hb,-⟩:=Iv (P:=P) (mty:=mty) (val:=u) (key:=.int .i64 (i:Int)) hm hd h1 h2 (fun x hx=>by obtain⟨⟨k,-,hk⟩,-⟩:=h3 x hx;rw[hk];rfl) rfl
 refine⟨es,es',c,c',h1,hr,⟨es',c',Wn (Ag.1 h1).1,hs,fun e he=>?_⟩,hb⟩
 rcases ha e he with ⟨e1,e2⟩|he
 ·exact⟨⟨i,hi,e1⟩,by rw[e2];exact hu.gr (GrM.upd h1 _)⟩
 ·exact⟨(h3 e he).1,(h3 e he).2.gr (GrM.upd h1 _)⟩
theorem Qq.ins {P:Program} {mty kt et:TypeId} {bt:Nat} {w:World} {b k:Nat} {v:Value} (h:Qq bt w b) (hv:KP bt k w v) (hm:P.underlying mty=some (.map kt et)) (hd:P.underlying kt=some (.int .i64)) :
  ∃es es' c c',w.heap[b]?=some (.map es c)/\(Instr.mapUpdate mty (.map (some b)) (.int .i64 (k:Int)) v).run P w=.ok () (ChangeMaps.setBlock w b (.map es' c'))/\Qq bt (ChangeMaps.setBlock w b (.map es' c')) b/\(∀x∈es.toList,∃y∈es'.toList,y.key=x.key)/\YL (ChangeMaps.setBlock w b (.map es' c')) b k:=by
 have ho:=h;obtain⟨es,c,h1,h2,h3⟩:=h;obtain⟨es',c',hr,hs,ha,hb,y,hy,hk⟩:=Iv (P:=P) (mty:=mty) (val:=v) (key:=.int .i64 (k:Int)) hm hd h1 h2 (fun x hx=>by obtain⟨k,hk,-⟩:=h3 x hx;rw[hk];rfl) rfl
 have hsame:=Wn (w:=w) (b:=b) (o:=.map es' c') (Ag.1 h1).1;refine⟨es,es',c,c',h1,hr,⟨es',c',hsame,hs,fun e he=>?_⟩,hb,es',c',hsame,y,hy,hk⟩
 rcases ha e he with ⟨e1,e2⟩|he
 ·exact⟨k,e1,by rw[e2];exact⟨hv.1.out ho,hv.2⟩⟩
 ·obtain⟨k',hk',h4,h5⟩:=h3 e he;exact⟨k',hk',h4.out ho,h5⟩
inductive Od where
 | mk (s:Nat)
 | out
 | con (s:Nat) (v:Value)
 | mv (s:Nat)
 | ins
 | oins (k:Nat)
 | sl (s:Nat) (ms:List Nat)
 | lim (s:Nat)
 | kp (s k:Nat)
def ZW (a:Act) (s:Nat):Value:=a.tmps.getD s undef
theorem X7 {a:Act} {d s:Nat} {v:Value} (hd:d<a.tmps.size):ZW (a.put (some d) v) s=if s=d then v else ZW a s:=by
 unfold ZW;simp only[Act.put,Array.getD_eq_getD_getElem?,Array.getElem?_setIfInBounds]
 by_cases h:d=s
 ·subst h;simp[hd]
 ·rw[if_neg h,if_neg (Ne.symm h)]
def slC (ms:List Nat):Array Value:=(ms.map (fun (m:Nat)=>Value.int .i64 (m:Int))).toArray
def RD (bt B:Nat) (a:Act) (w:World):Od->Prop
 | .mk s=>∃b,ZW a s=.map (some b)/\B<=b/\Vt w b
 | .con s v=>ZW a s=v
 | .mv s=>∃b,ZW a s=.map (some b)/\Vt w b
 | .sl s ms=>∃b,ZW a s=.slice (some ⟨b,0,none⟩) ms.length ms.length/\Blk w b (slC ms)
 | .lim s=>Yh w (ZW a s)
 | .kp s k=>KP bt k w (ZW a s)
 | _=>True
def SP:Od->Option Nat
 | .mk s|.con s _|.mv s|.sl s _|.lim s|.kp s _=>some s
 | .out=>some 15
 | _=>none
theorem RD.below {bt B:Nat} {a a':Act} {w w':World} {d:Od} (h:RD bt B a w d) (hs:∀s,SP d=some s->ZW a' s=ZW a s) (hb:Below w.heap.size w w'):RD bt B a' w' d:=by
 cases d with
 | mk s=>
  obtain⟨b,h1,h2,h3⟩:=h;exact⟨b,(hs s rfl).trans h1,h2,h3.below hb⟩
 | con s v=>exact (hs s rfl).trans h
 | mv s=>
  obtain⟨b,h1,h3⟩:=h;exact⟨b,(hs s rfl).trans h1,h3.below hb⟩
 | sl s ms=>
  obtain⟨b,h1,h3⟩:=h;exact⟨b,(hs s rfl).trans h1,h3.below hb⟩
 | lim s=>
  show Yh w' (ZW a' s);rw[hs s rfl];exact Yh.gr h (GrM.of_below hb)
 | kp s k=>
  show KP bt k w' (ZW a' s);rw[hs s rfl];exact⟨KPg.below h.1 hb,h.2⟩
 | out=>trivial
 | ins=>trivial
 | oins k=>trivial
theorem RD.num {bt B:Nat} {a:Act} {w:World} {d:Od} {b:Nat} {es es':Array MapEntry} {c c':Nat} (h:RD bt B a w d) (hb:w.heap[b]?=some (.map es c)) (hk:∀x∈es.toList,∃y∈es'.toList,y.key=x.key) (hn:Vt (ChangeMaps.setBlock w b (.map es' c')) b):RD bt B a (ChangeMaps.setBlock w b (.map es' c')) d:=by
 have hG:∀b',Vt w b'->Vt (ChangeMaps.setBlock w b (.map es' c')) b':=fun b' h'=>by
  by_cases hbb:b'=b
  ·rw[hbb];exact hn
  ·exact h'.other hb hbb
 cases d with
 | mk s=>
  obtain⟨b',h1,h2,h3⟩:=h;exact⟨b',h1,h2,hG _ h3⟩
 | con s v=>exact h
 | mv s=>
  obtain⟨b',h1,h3⟩:=h;exact⟨b',h1,hG _ h3⟩
 | sl s ms=>
  obtain⟨b',h1,h3⟩:=h;exact⟨b',h1,h3.gr (GrM.upd hb _)⟩
 | lim s=>exact Yh.gr h (GrM.upd hb _)
 | kp s k=>exact⟨KPg.num h.1 hb hk hn,h.2⟩
 | out=>trivial
 | ins=>trivial
 | oins k=>trivial
theorem RD.outs {bt B:Nat} {a:Act} {w:World} {d:Od} {b:Nat} {es':Array MapEntry} {c':Nat} (h:RD bt B a w d) (ho:Qq bt w b) (hn:∀s,(d=.mk s∨d=.mv s)->ZW a s≠.map (some b)):RD bt B a (ChangeMaps.setBlock w b (.map es' c')) d:=by
 have ho':=ho;obtain⟨es,c,hb,-,-⟩:=ho';cases d with
 | mk s=>
  obtain⟨b',h1,h2,h3⟩:=h;exact⟨b',h1,h2,h3.other hb (fun e=>hn s (.inl rfl) (by rw[h1,e]))⟩
 | con s v=>exact h
 | mv s=>
  obtain⟨b',h1,h3⟩:=h;exact⟨b',h1,h3.other hb (fun e=>hn s (.inr rfl) (by rw[h1,e]))⟩
 | sl s ms=>
  obtain⟨b',h1,h3⟩:=h;exact⟨b',h1,h3.gr (GrM.upd hb _)⟩
 | lim s=>exact Yh.gr h (GrM.upd hb _)
 | kp s k=>exact⟨KPg.out h.1 ho,h.2⟩
 | out=>trivial
 | ins=>trivial
 | oins k=>trivial
structure II (ds:Nat->Od) (bt:Nat) (a0:Act) (W0:World) (listed:Array Bool) (a:Act) (w:World):Prop where
 below:Below W0.heap.size W0 w
 size:a.tmps.size=a0.tmps.size
 dfr:a.defers=a0.defers
 base:∀s,s<7->ZW a s=ZW a0 s
 r:∀j,listed.getD j false=true->RD bt W0.heap.size a w (ds j)
 o1:listed.getD 0 false=true->∃b,ZW a 15=.map (some b)/\W0.heap.size<=b/\Qq bt w b/\(∀j k,listed.getD j false=true->ds j=.oins k->YL w b k)/\∀j s,listed.getD j false=true->(ds j=.mk s∨ds j=.mv s)->ZW a s≠.map (some b)
 o0:listed.getD 0 false=false->∀j k,listed.getD j false=true->ds j≠.oins k
theorem ZZ {listed:Array Bool} {i j:Nat} (h:(listed.setIfInBounds i true).getD j false=true):j=i∨listed.getD j false=true:=by
 by_cases hij:i=j
 ·exact .inl hij.symm
 ·exact .inr (by rwa [getD_set_ne false hij] at h)
section
variable {ds:Nat->Od} {bt:Nat} {a0:Act} {W0:World} {listed:Array Bool} {a:Act} {w w':World} {i:Nat}
def Ty (ds:Nat->Od):Prop:=∀i j s,SP (ds i)=some s->SP (ds j)=some s->i=j
theorem II.val (h:II ds bt a0 W0 listed a w) (hu:Ty ds) (hi:listed.getD i true=false) {d:Nat} {v:Value} (hd:SP (ds i)=some d) (hd7:7<=d) (hd2:d<a0.tmps.size) (h0:i≠0) (h15:d≠15) (ho:∀k,ds i≠.oins k) (hb:Below w.heap.size w w') (hr:RD bt W0.heap.size (a.put (some d) v) w' (ds i))
  (hm:∀s,(ds i=.mk s∨ds i=.mv s)->∀b,ZW a 15=.map (some b)->b<w.heap.size->Qq bt w b->W0.heap.size<=b->listed.getD 0 false=true->v≠.map (some b)):II ds bt a0 W0 (listed.setIfInBounds i true) (a.put (some d) v) w':=by
 have hsl:∀s,s≠d->ZW (a.put (some d) v) s=ZW a s:=fun s hs=>by rw[X7 (by rw[h.size];exact hd2),if_neg hs]
 have hne:∀j,listed.getD j false=true->j≠i:=fun j hj e=>by
  subst e;rw[Array.getD_eq_getD_getElem?] at hi hj;cases hx:listed[j]? with
  | none=>rw[hx] at hj;cases hj
  | some x=>rw[hx] at hi hj;simp at hi hj;rw[hi] at hj;cases hj
 have hslot:∀j,listed.getD j false=true->∀s,SP (ds j)=some s->ZW (a.put (some d) v) s=ZW a s:=fun j hj s hs=>hsl s (fun e=>hne j hj (hu j i d (by rw[hs,e]) hd))
 refine⟨bto h.below hb,by show (a.tmps.setIfInBounds d v).size=_;rw[Array.size_setIfInBounds];exact h.size,h.dfr,fun s hs=>(hsl s (by omega)).trans (h.base s hs),fun j hj=>?_,fun h1=>?_,fun h1 j k hj e=>?_⟩
 ·rcases ZZ hj with rfl|hj
  ·exact hr
  ·exact (h.r j hj).below (hslot j hj) hb
 ·rw[getD_set_ne false h0] at h1;obtain⟨b,h2,h3,h4,h5,h6⟩:=h.o1 h1;have hlt:b<w.heap.size:=by obtain⟨es,c,g,-,-⟩:=h4;exact (Ag.1 g).1
  refine⟨b,(hsl 15 (Ne.symm h15)).trans h2,h3,h4.below hb,fun j k hj e=>?_,fun j s hj e=>?_⟩
  ·rcases ZZ hj with rfl|hj
   ·exact absurd e (ho k)
   ·exact (h5 j k hj e).below hb
  ·rcases ZZ hj with rfl|hj
   ·have hsd:s=d:=by
     rcases e with e|e<;>(rw[e] at hd;exact Option.some.inj hd)
    subst hsd;rw[X7 (by rw[h.size];exact hd2),if_pos rfl]
    exact hm s e b h2 hlt h4 h3 h1
   ·rw[hslot j hj s (by rcases e with e|e<;>(rw[e];rfl))]
    exact h6 j s hj e
 ·rw[getD_set_ne false h0] at h1;rcases ZZ hj with rfl|hj
  ·exact ho k e
  ·exact h.o0 h1 j k hj e
end
section
variable {P:Program} {o:Oper} {a:Act} {w w':World} {K:Act->World->Prop} {Q:Exit->Act->World->Prop}
theorem ZB {v:Value} (hr:(execOp a.eval o).run P w=.ok (.value v) w') (hK:K (a.put o.dst v) w'):o.wp P a w K Q:=by
 unfold Oper.wp;rw[hr];exact hK
theorem Uy (hr:(execOp a.eval o).run P w=.ok .skip w') (hK:K (a.put o.dst undef) w'):o.wp P a w K Q:=by
 unfold Oper.wp;rw[hr];exact hK
theorem ZV {f:FuncId} {args:Array Value} (hr:(execOp a.eval o).run P w=.ok (.enter f args) w) (hc:Calls P f args w fun e w'=>∃v,e=.returned v/\K (a.put o.dst v) w'):o.wp P a w K Q:=by
 unfold Oper.wp;rw[hr];exact hc.mono fun e w' ⟨v,he,hk⟩=>by subst he;exact hk
end
theorem Iw {w:World} {b n:Nat} {l:List (Nat×Value)} (h:w.heap[b]?=some (.map (YO l) n)) (hn:n=l.length) (hd:(l.map (·.1)).Nodup) (hk:∀x∈l,x.1<13/\Yh w x.2):Vt w b:=by
 subst hn;refine⟨_,_,h,Se hd,fun e he=>?_⟩
 obtain⟨x,hx,h1,-⟩:=Xo he;refine⟨⟨x.1,(hk x hx).1,h1⟩,?_⟩
 have:∀(l:List (Nat×Value)) (n:Nat),e∈YA n l->∃x∈l,e.val=x.2:=by
  intro l
  induction l with
  | nil=>intro n h;cases h
  | cons y l ih=>
   intro n h;rcases List.mem_cons.1 h with rfl|h
   ·exact⟨y,List.mem_cons_self,rfl⟩
   ·obtain⟨x,h1,h2⟩:=ih _ h;exact⟨x,List.mem_cons_of_mem _ h1,h2⟩
 obtain⟨y,hy,h2⟩:=this l 0 he;rw[h2];exact (hk y hy).2
theorem Nm {w:World} {b n i:Nat} {l:List (Nat×Value)} (h:w.heap[b]?=some (.map (YO l) n)) (hi:i∈l.map (·.1)):YL w b i:=by
 obtain⟨x,hx,rfl⟩:=List.mem_map.1 hi;obtain⟨e,he,hk⟩:=VG (n:=0) hx;exact⟨_,_,h,e,he,hk⟩
structure KB (bt bo bp:Nat) (vp vl:Value) (a0:Act) (W0:World):Prop where
 size:a0.tmps.size=105
 s1:ZW a0 1=.pointer (some ⟨bp,0,none⟩)
 s2:ZW a0 2=vl
 s3:ZW a0 3=.pointer (some ⟨bo,0,none⟩)
 s4:ZW a0 4=.func (.func 231) #[] #[.pointer (some ⟨bo,0,none⟩),.pointer (some ⟨bp,0,none⟩)]
 s5:ZW a0 5=.func (.func 232) #[] #[]
 s6:ZW a0 6=.map (some bt)
 hbo:Blk W0 bo #[.func (.func 230) #[] #[]]
 hbp:Blk W0 bp #[vp]
 hbt:W0.heap[bt]?=some (.map (YO [(4,vp),(5,vl),(6,vl)]) 3)
 lp:Ux W0 bo vp true false
 ll:Ux W0 bo vl false false
theorem V3 {word word2:List UInt8} {cls cls2:Int} {H H2:List Bool} {M M2:Option Nat} {code code2:Bool} (h1:H.length=13) (h2:H2.length=13) (e:(Value.agg (ZA word cls H M code))=.agg (ZA word2 cls2 H2 M2 code2)):word=word2/\cls=cls2/\H=H2/\M=M2:=by
 injection e with e
 unfold ZA at e;have e:=congrArg Array.toList e;simp only[List.cons.injEq,Value.string.injEq,Value.int.injEq,ByteArray.mk.injEq,true_and] at e;obtain⟨e1,e2,e3⟩:=e;have e3:=List.append_inj e3 (by rw[List.length_map,List.length_map,h1,h2])
 refine⟨by simpa using e1,e2,?_,?_⟩
 ·exact (List.map_inj_right (fun a b h=>by injection h)).1 e3.1
 ·have e4:=e3.2;simp only[List.cons.injEq,Value.map.injEq] at e4;exact e4.1
def ZH (o:Oper) (j:Nat):Prop:=∃e∈o.after,e.on=j/\Region.binds .any e=true
def Step (ds:Nat->Od) (bt:Nat) (a0:Act) (W0:World) (o:Oper) (i:Nat):Prop:=
 ∀listed a w,II ds bt a0 W0 listed a w->listed.getD i true=false->(∀j,ZH o j->listed.getD j false=true)->o.wp Tryz.prog a w (II ds bt a0 W0 (listed.setIfInBounds i true)) (UB fun _ _=>False)
section
variable {ds:Nat->Od} {bt bo bp:Nat} {vp vl:Value} {a0:Act} {W0:World} {o:Oper} {i s:Nat}
theorem II.con {listed:Array Bool} {a:Act} {w w':World} {v:Value} (h:II ds bt a0 W0 listed a w) (hu:Ty ds) (hz:a0.tmps.size=105) (hi:listed.getD i true=false) (hd:SP (ds i)=some s) (hs:7<=s/\s<105/\s≠15/\i≠0) (hn:∀s,ds i≠.mk s/\ds i≠.mv s) (ho:∀k,ds i≠.oins k) (hb:Below w.heap.size w w') (hr:RD bt W0.heap.size (a.put (some s) v) w' (ds i)):II ds bt a0 W0 (listed.setIfInBounds i true) (a.put (some s) v) w':=
 h.val hu hi hd hs.1 (by omega) hs.2.2.2 hs.2.2.1 ho hb hr (fun s e=>by rcases e with e|e;exact absurd e (hn s).1;exact absurd e (hn s).2)
theorem Xp {a:Act} {v:Value} (h:s<a.tmps.size):ZW (a.put (some s) v) s=v:=by rw[X7 h,if_pos rfl]
theorem XK (hz:a0.tmps.size=105) (hu:Ty ds) {v:Value} {x:Nat} (hop:o.op=.move (.tmp x)) (hd:o.dst=some s) (hds:ds i=.con s v) (hx:x<7) (hv:ZW a0 x=v) (hs:7<=s/\s<105/\s≠15/\i≠0):Step ds bt a0 W0 o i:=fun listed a w h hi _=>by
 refine ZB (v:=v) (w':=w) ?_ ?_
 ·have e:a.eval (.tmp x)=v:=(h.base x hx).trans hv;simp[execOp,hop,e]
 ·rw[hd];refine h.con hu hz hi (by rw[hds];rfl) hs (fun s=>by rw[hds];exact⟨fun e=>(by cases e),fun e=>(by cases e)⟩) (fun k=>by rw[hds];exact fun e=>by cases e) (Below.refl _ _) ?_
  rw[hds];exact Xp (by rw[h.size,hz];exact hs.2.1)
theorem Xc (hz:a0.tmps.size=105) (hu:Ty ds) {v:Value} {x b:Nat} {ty:TypeId} (hrun:∀(a:Act) w,a.eval (.tmp x)=.pointer (some ⟨b,0,none⟩)->w.cell? ⟨b,0,none⟩=some v->(execOp a.eval o).run Tryz.prog w=.ok (.value v) w) (hd:o.dst=some s) (hds:ds i=.con s v) (hx:x<7) (hv:ZW a0 x=.pointer (some ⟨b,0,none⟩)) (hB:Blk W0 b #[v]) (hs:7<=s/\s<105/\s≠15/\i≠0) (_hop:o.op=.load ty (.tmp x)):Step ds bt a0 W0 o i:=fun listed a w h hi _=>by
 refine ZB (v:=v) (w':=w) (hrun _ w ((h.base x hx).trans hv) ((hB.below h.below).c 0)) ?_;rw[hd];refine h.con hu hz hi (by rw[hds];rfl) hs (fun s=>by rw[hds];exact⟨fun e=>(by cases e),fun e=>(by cases e)⟩) (fun k=>by rw[hds];exact fun e=>by cases e) (Below.refl _ _) ?_
 rw[hds];exact Xp (by rw[h.size,hz];exact hs.2.1)
theorem V4 (hz:a0.tmps.size=105) (hu:Ty ds) {ms:List Nat} (hrun:∀(a:Act) (w:World),(execOp a.eval o).run Tryz.prog w=.ok (.value (.slice (some ⟨w.heap.size,0,none⟩) ms.length ms.length)) (w.alloc (.cells (slC ms) 3))) (hd:o.dst=some s) (hds:ds i=.sl s ms) (hs:7<=s/\s<105/\s≠15/\i≠0):Step ds bt a0 W0 o i:=fun listed a w h hi _=>by
 refine ZB (hrun _ w) ?_;rw[hd];refine h.con hu hz hi (by rw[hds];rfl) hs (fun s=>by rw[hds];exact⟨fun e=>(by cases e),fun e=>(by cases e)⟩) (fun k=>by rw[hds];exact fun e=>by cases e) (Zd _ _) ?_
 rw[hds];exact⟨w.heap.size,Xp (by rw[h.size,hz];exact hs.2.1),_,ZF w _⟩
theorem Zad (hz:a0.tmps.size=105) (hu:Ty ds) {p q:Bool} (hrun:∀(a:Act) (w:World),(execOp a.eval o).run Tryz.prog w=.ok (.enter 229 #[.bool p,.bool q]) w) (hd:o.dst=some s) (hds:ds i=.lim s) (hs:7<=s/\s<105/\s≠15/\i≠0):Step ds bt a0 W0 o i:=fun listed a w h hi _=>by
 refine ZV (hrun _ w) ?_;refine (WY p q w).mono ?_;rintro e w' ⟨u,rfl,hb,b1,b2,hu1,h1,h2⟩;refine⟨u,rfl,?_⟩;rw[hd];refine h.con hu hz hi (by rw[hds];rfl) hs (fun s=>by rw[hds];exact⟨fun e=>(by cases e),fun e=>(by cases e)⟩) (fun k=>by rw[hds];exact fun e=>by cases e) hb ?_
 rw[hds];show Yh w' _;rw[Xp (by rw[h.size,hz];exact hs.2.1)]
 exact⟨p,q,b1,b2,hu1,h1,h2⟩
theorem SQ (hz:a0.tmps.size=105) (hu:Ty ds) (hop:o.op=.makeMap 268 none) (hd:o.dst=some s) (hds:ds i=.mk s) (hs:7<=s/\s<105/\s≠15/\i≠0):Step ds bt a0 W0 o i:=fun listed a w h hi _=>by
 have hb:=Zd w (.map #[] 0);refine ZB (v:=.map (some w.heap.size)) (w':=w.alloc (.map #[] 0)) ?_ ?_
 ·simp[execOp,hop,run_makeMap (P:=Tryz.prog) 268 w,Result.andThen]
 ·rw[hd];refine h.val hu hi (by rw[hds];rfl) hs.1 (by omega) hs.2.2.2 hs.2.2.1 (fun k=>by rw[hds];exact fun e=>by cases e) hb ?_ (fun s' e b _ hlt _ _ _ e2=>by injection e2 with e2;injection e2 with e2;omega)
  rw[hds];exact⟨w.heap.size,Xp (by rw[h.size,hz];exact hs.2.1),h.below.size,#[],0,ZF w _,MapKept.stamped_empty 0,fun e he=>by simp at he⟩
theorem SR (hz:a0.tmps.size=105) (hu:Ty ds) {m j:Nat} (hop:o.op=.move (.tmp m)) (hd:o.dst=some s) (hds:ds i=.mv s) (hj:ds j=.mk m) (hw:ZH o j) (hs:7<=s/\s<105/\s≠15/\i≠0):Step ds bt a0 W0 o i:=fun listed a w h hi hl=>by
 have hlj:=hl j hw;have hr:=h.r j hlj;rw[hj] at hr;obtain⟨b,h1,h2,h3⟩:=hr;refine ZB (v:=.map (some b)) (w':=w) ?_ ?_
 ·have e:a.eval (.tmp m)=.map (some b):=h1;simp[execOp,hop,e]
 ·rw[hd];refine h.val hu hi (by rw[hds];rfl) hs.1 (by omega) hs.2.2.2 hs.2.2.1 (fun k=>by rw[hds];exact fun e=>by cases e) (Below.refl _ _) ?_ (fun s' e b' h15 hlt _ _ hl0 e2=>?_)
  ·rw[hds];exact⟨b,Xp (by rw[h.size,hz];exact hs.2.1),h3⟩
  ·obtain⟨b2,g1,-,-,-,g5⟩:=h.o1 hl0;rw[h15] at g1;injection g1 with g1
   injection g1 with g1
   have:=g5 j m hlj (.inl hj)
   rw[h1,e2,g1] at this;exact this rfl
theorem Zae (hz:a0.tmps.size=105) (hu:Ty ds) (hop:o.op=.makeMap 272 none) (hd:o.dst=some 15) (hds:ds 0=.out):Step ds bt a0 W0 o 0:=fun listed a w h hi _=>by
 have hb:=Zd w (.map #[] 0);refine ZB (v:=.map (some w.heap.size)) (w':=w.alloc (.map #[] 0)) ?_ ?_
 ·simp[execOp,hop,run_makeMap (P:=Tryz.prog) 272 w,Result.andThen]
 rw[hd];have hsl:∀s,s≠15->ZW (a.put (some 15) (.map (some w.heap.size))) s=ZW a s:=fun s hs=>by rw[X7 (by rw[h.size,hz];decide),if_neg hs]
 have hl0:listed.getD 0 false=false:=by
  rw[Array.getD_eq_getD_getElem?] at hi ⊢;cases hx:listed[0]? with
  | none=>rfl
  | some x=>rw[hx] at hi;exact hi
 have hne:∀j,listed.getD j false=true->j≠0:=fun j hj e=>by subst e;rw[hl0] at hj;cases hj
 have hslot:∀j,listed.getD j false=true->∀s,SP (ds j)=some s->ZW (a.put (some 15) (.map (some w.heap.size))) s=ZW a s:=fun j hj s hs=>hsl s (fun e=>hne j hj (hu j 0 15 (by rw[hs,e]) (by rw[hds];rfl)))
 refine⟨bto h.below hb,by show (a.tmps.setIfInBounds _ _).size=_;rw[Array.size_setIfInBounds];exact h.size,h.dfr,fun s hs=>(hsl s (by omega)).trans (h.base s hs),fun j hj=>?_,fun _=>?_,fun h1=>?_⟩
 ·rcases ZZ hj with rfl|hj
  ·rw[hds];trivial
  ·exact (h.r j hj).below (hslot j hj) hb
 ·refine⟨w.heap.size,by rw[X7 (by rw[h.size,hz];decide),if_pos rfl],h.below.size,⟨#[],0,ZF w _,MapKept.stamped_empty 0,fun e he=>by simp at he⟩,fun j k hj e=>?_,fun j s hj e=>?_⟩
  ·rcases ZZ hj with rfl|hj
   ·rw[hds] at e;cases e
   ·exact absurd e (h.o0 hl0 j k hj)
  ·rcases ZZ hj with rfl|hj
   ·rw[hds] at e;rcases e with e|e<;>cases e
   ·rw[hslot j hj s (by rcases e with e|e<;>(rw[e];rfl))]
    have hr:=h.r j hj;intro e2;rcases e with e|e
    ·rw[e] at hr;obtain⟨b,g1,-,es,c,g2,-⟩:=hr;rw[g1] at e2;injection e2 with e2
     injection e2 with e2
     have:=(Ag.1 g2).1
     omega
    ·rw[e] at hr;obtain⟨b,g1,es,c,g2,-⟩:=hr;rw[g1] at e2;injection e2 with e2
     injection e2 with e2
     have:=(Ag.1 g2).1
     omega
 ·by_cases hsz:0<listed.size
  ·rw[Array.getD_eq_getD_getElem?,Array.getElem?_setIfInBounds,if_pos rfl,if_pos hsz] at h1;cases h1
  ·have:listed.getD 0 true=true:=by rw[Array.getD_eq_getD_getElem?,Array.getElem?_eq_none (by omega)];rfl
   rw[this] at hi;cases hi
theorem Xq {m jm jv k v:Nat} (hrun:∀(a:Act) (w w':World) b u,a.eval (.tmp m)=.map (some b)->a.eval (.tmp v)=u->(Instr.mapUpdate 268 (.map (some b)) (.int .i64 (k:Int)) u).run Tryz.prog w=.ok () w'->(execOp a.eval o).run Tryz.prog w=.ok .skip w') (hd:o.dst=none) (hds:ds i=.ins) (hk:k<13) (hjm:ds jm=.mk m) (hjv:ds jv=.lim v∨∃u,ds jv=.con v u/\Yh W0 u) (hw1:ZH o jm) (hw2:ZH o jv) (h0:i≠0):Step ds bt a0 W0 o i:=fun listed a w h hi hl=>by
 have hr:=h.r jm (hl jm hw1);rw[hjm] at hr;obtain⟨b,h1,h2,h3⟩:=hr;have hlv:Yh w (ZW a v):=by
  have hr:=h.r jv (hl jv hw2);rcases hjv with e|⟨u,e,hu⟩
  ·rw[e] at hr;exact hr
  ·rw[e] at hr;have hr:ZW a v=u:=hr;rw[hr];exact hu.gr ⟨h.below.size,fun b ob hb _=>(h.below.block _ (Ag.1 hb).1).trans hb⟩
 obtain⟨es,es',c,c',g1,g2,g3,g4⟩:=h3.ins (P:=Tryz.prog) (mty:=268) hk hlv Tryz.underlying268 Tryz.underlying3;refine Uy (hrun _ w _ b _ h1 rfl g2) ?_;rw[hd];show II ds bt a0 W0 _ a _;refine⟨Vp h.below h2,h.size,h.dfr,h.base,fun j hj=>?_,fun h5=>?_,fun h5 j k hj e=>?_⟩
 ·rcases ZZ hj with rfl|hj
  ·rw[hds];trivial
  ·exact (h.r j hj).num g1 g4 g3
 ·rw[getD_set_ne false h0] at h5;obtain⟨b2,k1,k2,k3,k4,k5⟩:=h.o1 h5;have hne:b2≠b:=fun e=>by subst e;exact k5 jm m (hl jm hw1) (.inl hjm) h1
  refine⟨b2,k1,k2,?_,fun j k hj e=>?_,fun j s hj e=>?_⟩
  ·obtain⟨es2,c2,q1,q2,q3⟩:=k3;refine⟨es2,c2,(Yx hne).trans q1,q2,fun e he=>?_⟩
   obtain⟨k,p1,p2,p3⟩:=q3 e he;exact⟨k,p1,p2.num g1 g4 g3,p3⟩
  ·rcases ZZ hj with rfl|hj
   ·rw[hds] at e;cases e
   ·exact (k4 j k hj e).upd g1 g4
  ·rcases ZZ hj with rfl|hj
   ·rw[hds] at e;rcases e with e|e<;>cases e
   ·exact k5 j s hj e
 ·rw[getD_set_ne false h0] at h5;rcases ZZ hj with rfl|hj
  ·rw[hds] at e;cases e
  ·exact h.o0 h5 j k hj e
theorem Yf {jv k v:Nat} (hrun:∀(a:Act) (w w':World) b u,a.eval (.tmp 15)=.map (some b)->a.eval (.tmp v)=u->(Instr.mapUpdate 272 (.map (some b)) (.int .i64 (k:Int)) u).run Tryz.prog w=.ok () w'->(execOp a.eval o).run Tryz.prog w=.ok .skip w') (hd:o.dst=none) (hds:ds i=.oins k) (hjv:ds jv=.kp v k) (hw1:ZH o 0) (hw2:ZH o jv) (h0:i≠0):Step ds bt a0 W0 o i:=fun listed a w h hi hl=>by
 have hl0:=hl 0 hw1;obtain⟨b,k1,k2,k3,k4,k5⟩:=h.o1 hl0;have hv:=h.r jv (hl jv hw2);rw[hjv] at hv;have hv:KP bt k w (ZW a v):=hv;obtain⟨es,es',c,c',g1,g2,g3,g4,g5⟩:=k3.ins (P:=Tryz.prog) (mty:=272) hv Tryz.underlying272 Tryz.underlying3;refine Uy (hrun _ w _ b _ k1 rfl g2) ?_;rw[hd];show II ds bt a0 W0 _ a _;refine⟨Vp h.below k2,h.size,h.dfr,h.base,fun j hj=>?_,fun h5=>?_,fun h5 j k' hj e=>?_⟩
 ·rcases ZZ hj with rfl|hj
  ·rw[hds];trivial
  ·exact (h.r j hj).outs k3 (fun s e=>k5 j s hj e)
 ·refine⟨b,k1,k2,g3,fun j k' hj e=>?_,fun j s hj e=>?_⟩
  ·rcases ZZ hj with rfl|hj
   ·rw[hds] at e;injection e with e
    rw[<-e];exact g5
   ·exact (k4 j k' hj e).upd g1 g4
  ·rcases ZZ hj with rfl|hj
   ·rw[hds] at e;rcases e with e|e<;>cases e
   ·exact k5 j s hj e
 ·rw[getD_set_ne false h0,hl0] at h5;cases h5
theorem II.kp {listed:Array Bool} {a:Act} {w w':World} {v:Value} {k:Nat} (h:II ds bt a0 W0 listed a w) (hu:Ty ds) (hz:a0.tmps.size=105) (hi:listed.getD i true=false) (hds:ds i=.kp s k) (hs:7<=s/\s<105/\s≠15/\i≠0) (hb:Below w.heap.size w w') (hr:KP bt k w' v):II ds bt a0 W0 (listed.setIfInBounds i true) (a.put (some s) v) w':=by
 refine h.con hu hz hi (by rw[hds];rfl) hs (fun s=>by rw[hds];exact⟨fun e=>(by cases e),fun e=>(by cases e)⟩) (fun k=>by rw[hds];exact fun e=>by cases e) hb ?_
 rw[hds];show KP bt k w' _;rw[Xp (by rw[h.size,hz];exact hs.2.1)]
 exact hr
theorem Ov (kb:KB bt bo bp vp vl a0 W0) (hu:Ty ds) {f j k:Nat} {word:List UInt8} (hrun:∀(a:Act) (w:World),a.eval (.tmp f)=.func (.func 231) #[] #[.pointer (some ⟨bo,0,none⟩),.pointer (some ⟨bp,0,none⟩)]->(execOp a.eval o).run Tryz.prog w=.ok (.enter 231 #[.string ⟨word.toArray⟩,.pointer (some ⟨bo,0,none⟩),.pointer (some ⟨bp,0,none⟩)]) w) (hd:o.dst=some s) (hds:ds i=.kp s k) (hj:ds j=.con f (.func (.func 231) #[] #[.pointer (some ⟨bo,0,none⟩),.pointer (some ⟨bp,0,none⟩)])) (hw:ZH o j) (hk:k≠4) (hs:7<=s/\s<105/\s≠15/\i≠0):Step ds bt a0 W0 o i:=fun listed a w h hi hl=>by
 have hr:=h.r j (hl j hw);rw[hj] at hr;refine ZV (hrun _ w hr) ?_;refine (Zbv word (Nat.lt_of_lt_of_le kb.hbo.ltB h.below.size) (kb.hbo.below h.below) (kb.hbp.below h.below) (kb.lp.keep (Zr.of_below h.below))).mono ?_;rintro e w' ⟨v,rfl,-,hb,H,bm,rfl,hH,hm⟩;refine⟨_,rfl,?_⟩;rw[hd];have hl2:Yh w' vp:=kb.lp.any.gr (GrM.of_below (bto h.below hb));refine h.kp hu kb.size hi hds hs hb ⟨⟨word,2,H,some bm,false,rfl,hH.1,fun i hi=>?_⟩,fun e=>absurd e hk⟩
 rcases hH.2 i hi with rfl|rfl
 ·exact .inr ⟨bm,rfl,Iw hm rfl (by simp) (fun x hx=>by rw[List.mem_singleton.1 hx];exact⟨by simp,hl2⟩),Nm hm (by simp)⟩
 ·exact .inl (by decide)
theorem SS (kb:KB bt bo bp vp vl a0 W0) (hu:Ty ds) {f m s2 jf jm js k:Nat} {word:List UInt8} {cls:Int} {ms:List Nat} (hrun:∀(a:Act) (w:World) b bs,a.eval (.tmp f)=.func (.func 230) #[] #[]->a.eval (.tmp m)=.map (some b)->a.eval (.tmp s2)=.slice (some ⟨bs,0,none⟩) ms.length ms.length->(execOp a.eval o).run Tryz.prog w=.ok (.enter 230 #[.string ⟨word.toArray⟩,.int .i64 cls,.map (some b),.slice (some ⟨bs,0,none⟩) ms.length ms.length]) w) (hd:o.dst=some s) (hds:ds i=.kp s k) (hjf:ds jf=.con f (.func (.func 230) #[] #[])) (hjm:ds jm=.mv m) (hjs:ds js=.sl s2 ms) (hw1:ZH o jf) (hw2:ZH o jm) (hw3:ZH o js) (hm:∀m∈ms,m<13/\m∈Qp) (hml:ms.length<=100) (hk:k≠4) (hs:7<=s/\s<105/\s≠15/\i≠0):Step ds bt a0 W0 o i:=fun listed a w h hi hl=>by
 have hr1:=h.r jf (hl jf hw1);have hr2:=h.r jm (hl jm hw2);have hr3:=h.r js (hl js hw3);rw[hjf] at hr1;rw[hjm] at hr2;rw[hjs] at hr3;obtain⟨b,g1,hN⟩:=hr2;obtain⟨bs,g3,g4⟩:=hr3;have hN':=hN;obtain⟨es,c,q1,q2,q3⟩:=hN';refine ZV (hrun _ w b bs hr1 g1 g3) ?_;refine (Zab word cls q1 q2 (fun e he=>by obtain⟨⟨k,h1,h2⟩,-⟩:=q3 e he;exact⟨k,h2,h1⟩) (Pb g4) rfl hml (fun m hm'=>(hm m hm').1)).mono ?_
 rintro e w' ⟨H,rfl,⟨hH1,hH2⟩,-,hb⟩;refine⟨_,rfl,?_⟩;rw[hd];refine h.kp hu kb.size hi hds hs hb ⟨⟨word,cls,H,some b,false,rfl,hH1,fun i hi=>?_⟩,fun e=>absurd e hk⟩
 rcases hH2 i hi with ⟨e,he,hke⟩|hms
 ·exact .inr ⟨b,rfl,hN.below hb,es,c,Zw q1 hb,e,he,hke⟩
 ·exact .inl (hm i hms).2
theorem EM (kb:KB bt bo bp vp vl a0 W0) (hu:Ty ds) {f m s2 jf jm js k:Nat} {word:List UInt8} {cls:Int} {ms:List Nat} (hrun:∀(a:Act) (w:World) b bs,a.eval (.tmp f)=.func (.func 230) #[] #[]->a.eval (.tmp m)=.map (some b)->a.eval (.tmp s2)=.slice (some ⟨bs,0,none⟩) ms.length ms.length->(execOp a.eval o).run Tryz.prog w=.ok (.enter 230 #[.string ⟨word.toArray⟩,.int .i64 cls,.map (some b),.slice (some ⟨bs,0,none⟩) ms.length ms.length]) w) (hd:o.dst=some s) (hds:ds i=.kp s k) (hjf:ds jf=.con f (.func (.func 230) #[] #[])) (hjm:ds jm=.con m (.map (some bt))) (hjs:ds js=.sl s2 ms) (hw1:ZH o jf) (hw2:ZH o jm) (hw3:ZH o js) (hm:∀m∈ms,m<13/\m∈Qp) (hml:ms.length<=100) (hk:k=4->ms=[0,10]) (hs:7<=s/\s<105/\s≠15/\i≠0):Step ds bt a0 W0 o i:=fun listed a w h hi hl=>by
 have hr1:=h.r jf (hl jf hw1);have hr2:=h.r jm (hl jm hw2);have hr3:=h.r js (hl js hw3);rw[hjf] at hr1;rw[hjm] at hr2;rw[hjs] at hr3;obtain⟨bs,g3,g4⟩:=hr3;have q1:=Zw kb.hbt h.below;have hlp:Yh w vp:=kb.lp.any.gr (GrM.of_below h.below);have hll:Yh w vl:=kb.ll.any.gr (GrM.of_below h.below)
 have hN:Vt w bt:=Iw q1 rfl (by simp) (fun x hx=>by
  simp only[List.mem_cons,List.not_mem_nil,or_false] at hx;rcases hx with rfl|rfl|rfl
  ·exact⟨by simp,hlp⟩
  ·exact⟨by simp,hll⟩
  ·exact⟨by simp,hll⟩)
 refine ZV (hrun _ w bt bs hr1 hr2 g3) ?_
 refine (Zab word cls q1 (Se (l:=[(4,vp),(5,vl),(6,vl)]) (by simp)) (fun e he=>by
  obtain⟨es,c,k1,-,k3⟩:=hN;rw[q1] at k1;cases k1;obtain⟨⟨k,h1,h2⟩,-⟩:=k3 e he
  exact⟨k,h2,h1⟩) (Pb g4) rfl hml (fun m hm'=>(hm m hm').1)).mono ?_
 rintro e w' ⟨H,rfl,⟨hH1,hH2⟩,hH3,hb⟩;simp only[Iu] at hH2 hH3;refine⟨_,rfl,?_⟩;rw[hd];refine h.kp hu kb.size hi hds hs hb ⟨⟨word,cls,H,some bt,false,rfl,hH1,fun i hi=>?_⟩,fun e=>?_⟩
 ·rcases hH2 i hi with hke|hms
  ·exact .inr ⟨bt,rfl,hN.below hb,Nm (Zw q1 hb) hke⟩
  ·exact .inl (hm i hms).2
 ·have hms:=hk e;subst hms;exact⟨word,cls,H,false,rfl,⟨hH1,hH2⟩,hH3⟩
theorem EN (kb:KB bt bo bp vp vl a0 W0) (hu:Ty ds) {f s2 jf js k:Nat} {word:List UInt8} {cls:Int} {ms:List Nat} (hrun:∀(a:Act) (w:World) bs,a.eval (.tmp f)=.func (.func 230) #[] #[]->a.eval (.tmp s2)=.slice (some ⟨bs,0,none⟩) ms.length ms.length->(execOp a.eval o).run Tryz.prog w=.ok (.enter 230 #[.string ⟨word.toArray⟩,.int .i64 cls,.map none,.slice (some ⟨bs,0,none⟩) ms.length ms.length]) w) (hd:o.dst=some s) (hds:ds i=.kp s k) (hjf:ds jf=.con f (.func (.func 230) #[] #[])) (hjs:ds js=.sl s2 ms) (hw1:ZH o jf) (hw3:ZH o js) (hm:∀m∈ms,m<13/\m∈Qp) (hml:ms.length<=100) (hk:k≠4) (hs:7<=s/\s<105/\s≠15/\i≠0):Step ds bt a0 W0 o i:=fun listed a w h hi hl=>by
 have hr1:=h.r jf (hl jf hw1);have hr3:=h.r js (hl js hw3);rw[hjf] at hr1;rw[hjs] at hr3;obtain⟨bs,g3,g4⟩:=hr3;refine ZV (hrun _ w bs hr1 g3) ?_;refine (Zbu word cls (Pb g4) rfl hml (fun m hm'=>(hm m hm').1)).mono ?_
 rintro e w' ⟨H,rfl,⟨hH1,hH2⟩,-,hb⟩;refine⟨_,rfl,?_⟩;rw[hd];exact h.kp hu kb.size hi hds hs hb ⟨⟨word,cls,H,none,false,rfl,hH1,fun i hi=>.inl (hm i (hH2 i hi)).2⟩,fun e=>absurd e hk⟩
theorem Ix (kb:KB bt bo bp vp vl a0 W0) (hu:Ty ds) {f x jf jx k k':Nat} (hrun:∀(a:Act) (w:World) u,a.eval (.tmp f)=.func (.func 232) #[] #[]->a.eval (.tmp x)=u->(execOp a.eval o).run Tryz.prog w=.ok (.enter 232 #[u]) w) (hd:o.dst=some s) (hds:ds i=.kp s k) (hjf:ds jf=.con f (.func (.func 232) #[] #[])) (hjx:ds jx=.kp x k') (hw1:ZH o jf) (hw2:ZH o jx) (hk:k≠4) (hs:7<=s/\s<105/\s≠15/\i≠0):Step ds bt a0 W0 o i:=fun listed a w h hi hl=>by
 have hr1:=h.r jf (hl jf hw1);have hr2:=h.r jx (hl jx hw2);rw[hjf] at hr1;rw[hjx] at hr2;obtain⟨hr2,-⟩:=hr2;have hr3:=hr2;obtain⟨word,cls,H,M,code,e,h1,-⟩:=hr3;refine ZV (hrun _ w (ZW a x) hr1 rfl) ?_;rw[e];refine (Zac h1).mono ?_;rintro e' w' ⟨rfl,hb⟩;refine⟨_,rfl,?_⟩;rw[hd];have hr4:=hr2.below hb;rw[e] at hr4;refine h.kp hu kb.size hi hds hs hb ⟨?_,fun e=>absurd e hk⟩
 obtain⟨word2,cls2,H2,M2,code2,e2,k1,k2⟩:=hr4;obtain⟨rfl,rfl,rfl,rfl⟩:=V3 h1 k1 e2;exact⟨_,_,_,_,true,rfl,k1,k2⟩
end
abbrev SV:=(Nat->Value)->Act
abbrev BV:=Nat->Option (World->Value->Prop)
section
variable {P:Program} {ops:Array Oper} {md:Region.Mode} {C:World->Prop}
variable {Q:SV->BV->Prop} {o:Oper} {rest:List Oper} {i:Nat} {a:SV} {B:BV}
end
section
variable {P:Program} {ops:Array Oper} {Q:Exit->Act->World->Prop} {S:Act->World->Prop}
theorem Jn {o:Oper} {a:Act} {w:World} {K K':Act->World->Prop} (hk:∀a w,K a w->K' a w) (h:o.wp P a w K (UB S)):o.wp P a w K' Q:=by
 unfold Oper.wp at *;generalize (execOp a.eval o).run P w=r at *;cases r with
 | ok x w'=>
  cases x<;>simp only[Oper.upon] at h ⊢ <;>
   first
    | exact hk _ _ h
    | exact Calls.mono h (fun e w'' he=>by
      cases e<;>first
       | exact hk _ _ he
       | exact absurd he.1 (by simp)
       | (obtain⟨_,_,hx⟩:=he;exact absurd hx.1 (by simp)))
    | exact Rows.mono h (fun _ _ he=>hk _ _ he)
    | exact absurd h (by simp)
 | halt x w'=>
  cases x<;>simp only[Oper.upon] at h ⊢<;>first
   | exact absurd h.1 (by simp)
   | exact h
end
section
variable {P:Program} {Q:Exit->Act->World->Prop}
theorem QM {o:Oper} {a:Act} {w:World} {K:Act->World->Prop} (h:o.wp P a w K (UB fun _ _=>False)):o.wp P a w K Q:=Jn (fun _ _ h=>h) h
theorem Ow {id:Nat} {a:Act} {w:World} {I:Array Bool->Act->World->Prop} {l:List Oper} {s1 s2:Oper} (hm:P.follows .mixedOrders=true) (hU1:YC .any l s1=true) (hU2:YC .any (l++[s1]) s2=true) (hg:(l++[s1]++[s2]).all (fun o=>o.guard.isNone)=true)
  (hbk:∀(i:Nat) (o:Oper),l.toArray[i]?=some o->∀e∈o.after,Region.binds .any e=true->e.on<i)
  (h0:I (Array.replicate l.length false) a { w with drawn:=w.drawn+1 })
  (hend:∀listed a w,(∀i,i<l.length->listed.getD i false=true)->I listed a w->wpList P (l++[s1]++[s2]).toArray Q [s1,s2] a w)
  (hstep:∀listed a w i o,I listed a w->l.toArray[i]?=some o->listed.getD i true=false->(∀e∈o.after,Region.binds .any e=true->listed.getD e.on false=true)->o.wp P a w (I (listed.setIfInBounds i true)) (UB fun _ _=>False)):(Code.region id (l++[s1]++[s2]).toArray true).wp P Q a w:=by
 have hgs:∀o∈l++[s1]++[s2],o.guard=none:=fun o ho=>by
  have:=(List.all_eq_true.1 hg) o ho
  simpa using this
 refine wp_region_any hm ?_;have g1:s1.guard=none:=hgs s1 (by simp)
 have g2:s2.guard=none:=hgs s2 (by simp)
 have h2:wpAny P .any l.toArray (Exit.then (wpList P (l++[s1]).toArray (Exit.then (wpList P (l++[s1]++[s2]).toArray Q [s2]) Q) [s1]) (Exit.then (wpList P (l++[s1]++[s2]).toArray Q [s2]) Q)) l.toArray.size (Array.replicate l.toArray.size false) a { w with drawn:=w.drawn+1 }:=by
  refine Qo (I:=I) hbk (fun listed a' w' hall hI=>?_) (fun listed a' w' i o hI ho hi hl=>?_) _ _ _ _ (by simp) (by rw[Array.toList_replicate,Ou];exact Nl _) (by simpa using h0)
  ·have h3:wpList P (l++[s1]++[s2]).toArray Q [s1,s2] a' w':=hend listed a' w' (by simpa using hall) hI
   show wpList P (l++[s1]).toArray _ [s1] a' w';rw[wpList] at h3 ⊢;simp only[Yl g1,if_true] at h3 ⊢;rcases h3 with h3|h3
   ·exact .inl (Oper.wp_mono2 (fun a w h=>h) (fun _ _ _ h=>h) (fun ⟨a,w,h⟩=>⟨a,w,h⟩) h3)
   ·exact .inr ⟨h3.1,(fun ⟨a,w,h⟩=>⟨a,w,h⟩) h3.2⟩
  ·have hmem:o∈l:=by
    have:=Array.mem_of_getElem? ho
    simpa using this
   have hgo:=hgs o (by simp[hmem])
   unfold wpOp;simp only[ho,Yl hgo,if_true];exact .inl (QM (hstep listed a' w' i o hI ho hi hl))
 have h3:=Ui (P:=P) (md:=.any) hU1 g1 (fun o ho=>hgs o (by simp[ho])) _ _ _ a _ (VP l s1) h2
 have h4:=Ui (P:=P) (md:=.any) hU2 g2 (fun o ho=>hgs o (List.mem_append_left _ ho)) _ _ _ a _ (VP (l++[s1]) s2) h3
 simpa using h4
theorem QT {id:Nat} {a:Act} {w:World} {I:Array Bool->Act->World->Prop} {L:List Oper} (hne:L≠[]) (hne2:L.dropLast≠[]) (hm:P.follows .mixedOrders=true) (hU1:YC .any L.dropLast.dropLast (L.dropLast.getLast hne2)=true) (hU2:YC .any L.dropLast (L.getLast hne)=true) (hg:L.all (fun o=>o.guard.isNone)=true)
  (hbk:∀(i:Nat) (o:Oper),L.dropLast.dropLast.toArray[i]?=some o->∀e∈o.after,Region.binds .any e=true->e.on<i)
  (h0:I (Array.replicate L.dropLast.dropLast.length false) a { w with drawn:=w.drawn+1 })
  (hend:∀listed a w,(∀i,i<L.dropLast.dropLast.length->listed.getD i false=true)->I listed a w->wpList P L.toArray Q [L.dropLast.getLast hne2,L.getLast hne] a w)
  (hstep:∀listed a w i o,I listed a w->L.dropLast.dropLast.toArray[i]?=some o->listed.getD i true=false->(∀e∈o.after,Region.binds .any e=true->listed.getD e.on false=true)->o.wp P a w (I (listed.setIfInBounds i true)) (UB fun _ _=>False)):(Code.region id L.toArray true).wp P Q a w:=by
 have e1:L.dropLast.dropLast++[L.dropLast.getLast hne2]=L.dropLast:=List.dropLast_concat_getLast hne2;have e2:L.dropLast++[L.getLast hne]=L:=List.dropLast_concat_getLast hne
 have:=Ow (P:=P) (id:=id) (Q:=Q) (a:=a) (w:=w) (I:=I) (l:=L.dropLast.dropLast) (s1:=L.dropLast.getLast hne2) (s2:=L.getLast hne) hm hU1 (by rw[e1];exact hU2) (by rw[e1,e2];exact hg) hbk h0 (by rw[e1,e2];exact hend) hstep
 rwa [e1,e2] at this
def WU (S:Oper->Nat->Prop):List Oper->Nat->Prop
 | [],_=>True
 | o::l,i=>S o i/\WU S l (i+1)
theorem Sf {S:Oper->Nat->Prop}:∀{l:List Oper} {n:Nat},WU S l n->∀(i:Nat) (o:Oper),l[i]?=some o->S o (n+i)
 | [],_,_,i,o,h=>by simp at h
 | x::l,n,h,0,o,ho=>by
  have:x=o:=by simpa using ho
  subst this;exact h.1
 | x::l,n,h,i+1,o,ho=>by
  have:=Sf h.2 i o (by simpa using ho)
  rwa [show n+(i+1)=n+1+i by omega]
end
theorem Zi {o:Oper} {j:Nat} (h:(o.after.toList.any fun e=>e.on==j&&Region.binds .any e)=true):ZH o j:=by
 rw[List.any_eq_true] at h;obtain⟨e,he,h⟩:=h;rw[Bool.and_eq_true,beq_iff_eq] at h;exact⟨e,Array.mem_toList_iff.1 he,h.1,h.2⟩
def kDs (bt bo bp:Nat) (vp vl:Value):List Od:=[.out,.con 16 (.func (.func 231) #[] #[.pointer (some ⟨bo,0,none⟩),.pointer (some ⟨bp,0,none⟩)]),.kp 17 1,.oins 1,.con 18 (.func (.func 231) #[] #[.pointer (some ⟨bo,0,none⟩),.pointer (some ⟨bp,0,none⟩)]),.kp 19 2,.oins 2,.con 20 (.func (.func 230) #[] #[]),.con 21 (.map (some bt)),.sl 22 [0],.kp 23 3,.oins 3,.con 24 (.func (.func 230) #[] #[]),.con 25 (.map (some bt)),.sl 26 [0,10],.kp 27 4,.oins 4,.con 28 (.func (.func 230) #[] #[]),.mk 29,.con 30 vp,.ins,.mv 31,.sl 32 [0],.kp 33 5,.oins 5,.con 34 (.func (.func 231) #[] #[.pointer (some ⟨bo,0,none⟩),.pointer (some ⟨bp,0,none⟩)]),.kp 35 6,.oins 6,.con 36 (.func (.func 232) #[] #[]),.con 37 (.func (.func 230) #[] #[]),.mk 38,.con 39 vp,.ins,.con 40 vp,.ins,.mv 41,.sl 42 [1,2],.kp 43 0,.kp 44 7,.oins 7,.con 45 (.func (.func 230) #[] #[]),.mk 46,.con 47 vl,.ins,.con 48 vp,.ins,.mv 49,.sl 50 [0],.kp 51 8,.oins 8,.con 52 (.func (.func 230) #[] #[]),.mk 53,.con 54 vl,.ins,.con 55 vp,.ins,.lim 56,.ins,.mv 57,.sl 58 [0,1],.kp 59 9,.oins 9,.con 60 (.func (.func 230) #[] #[]),.sl 61 [0,11],.kp 62 10,.oins 10,.con 63 (.func (.func 230) #[] #[]),.sl 64 [0,3,12],.kp 65 11,.oins 11,.con 66 (.func (.func 230) #[] #[]),.mk 67,.con 68 vp,.ins,.con 69 vl,.ins,.con 70 vp,.ins,.mv 71,.sl 72 [0,1],.kp 73 12,.oins 12,.con 74 (.func (.func 230) #[] #[]),.mk 75,.con 76 vp,.ins,.mv 77,.sl 78 [0],.kp 79 13,.oins 13,.con 80 (.func (.func 230) #[] #[]),.mk 81,.con 82 vl,.ins,.mv 83,.sl 84 [0],.kp 85 14,.oins 14,.con 86 (.func (.func 230) #[] #[]),.mk 87,.con 88 vl,.ins,.mv 89,.sl 90 [0],.kp 91 15,.oins 15,.con 92 (.func (.func 232) #[] #[]),.con 93 (.func (.func 230) #[] #[]),.mk 94,.con 95 vp,.ins,.mv 96,.sl 97 [1,2],.kp 98 0,.kp 99 16,.oins 16,.con 100 (.func (.func 231) #[] #[.pointer (some ⟨bo,0,none⟩),.pointer (some ⟨bp,0,none⟩)]),.kp 101 17,.oins 17,.con 102 (.func (.func 231) #[] #[.pointer (some ⟨bo,0,none⟩),.pointer (some ⟨bp,0,none⟩)]),.kp 103 18,.oins 18]
def kDl:List (Option Nat):=[some 15,some 16,some 17,none,some 18,some 19,none,some 20,some 21,some 22,some 23,none,some 24,some 25,some 26,some 27,none,some 28,some 29,some 30,none,some 31,some 32,some 33,none,some 34,some 35,none,some 36,some 37,some 38,some 39,none,some 40,none,some 41,some 42,some 43,some 44,none,some 45,some 46,some 47,none,some 48,none,some 49,some 50,some 51,none,some 52,some 53,some 54,none,some 55,none,some 56,none,some 57,some 58,some 59,none,some 60,some 61,some 62,none,some 63,some 64,some 65,none,some 66,some 67,some 68,none,some 69,none,some 70,none,some 71,some 72,some 73,none,some 74,some 75,some 76,none,some 77,some 78,some 79,none,some 80,some 81,some 82,none,some 83,some 84,some 85,none,some 86,some 87,some 88,none,some 89,some 90,some 91,none,some 92,some 93,some 94,some 95,none,some 96,some 97,some 98,some 99,none,some 100,some 101,none,some 102,some 103,none]
theorem CJ (bt bo bp:Nat) (vp vl:Value):(kDs bt bo bp vp vl).map SP=kDl:=rfl
theorem EO:((List.range 122).all fun i=>(List.range 122).all fun j=>i==j||(kDl.getD i none).isNone||kDl.getD i none != kDl.getD j none)=true:=by decide +kernel
def kd (bt bo bp:Nat) (vp vl:Value) (i:Nat):Od:=(kDs bt bo bp vp vl).getD i .ins
theorem CL (bt bo bp:Nat) (vp vl:Value) (i:Nat):SP (kd bt bo bp vp vl i)=kDl.getD i none:=by
 rw[<-CJ bt bo bp vp vl];unfold kd;rw[List.getD_eq_getElem?_getD,List.getD_eq_getElem?_getD,List.getElem?_map];cases (kDs bt bo bp vp vl)[i]? with
 | none=>rfl
 | some x=>rfl
theorem CO (bt bo bp:Nat) (vp vl:Value):Ty (kd bt bo bp vp vl):=fun i j s hi hj=>by
 rw[CL] at hi hj;have hl:kDl.length=122:=by decide +kernel
 have hlt:∀i s,kDl.getD i none=some s->i<122:=fun i s h=>by
  rw[List.getD_eq_getElem?_getD] at h
  by_cases hx:i<122
  ·exact hx
  ·rw[List.getElem?_eq_none (by omega)] at h
   cases h
 have h:=EO;rw[List.all_eq_true] at h;have h:=h i (List.mem_range.2 (hlt i s hi));rw[List.all_eq_true] at h;have h:=h j (List.mem_range.2 (hlt j s hj));rw[hi,hj] at h;simpa using h
theorem toD {a:Act} {x:Nat} {v:Value} (h:a.eval (.tmp x)=v):a.tmps[x]?.getD undef=v:=by
 rw[<-Array.getD_eq_getD_getElem?];exact h
theorem Ux.re {w w':World} {r r':Nat} {u:Value} {p q:Bool} (h:Ux w r u p q) (hb:Below w.heap.size w w') (hr:w.heap.size<=r'):Ux w' r' u p q:=by
 obtain⟨b1,b2,e,h1,h2,-,-⟩:=h.is;have l1:=h1.ltB;have l2:=h2.ltB;exact⟨b1,b2,e,h1.below hb,h2.below hb,by omega,by omega⟩
theorem CU {ds:Nat->Od} {bt bo bp:Nat} {vp vl:Value} {a0:Act} {W0:World} {l:List Oper} (kb:KB bt bo bp vp vl a0 W0) (h:KB bt bo bp vp vl a0 W0->WU (Step ds bt a0 W0) l 0):WU (Step ds bt a0 W0) l 0:=h kb
theorem N5 {id:Nat} {Q:Exit->Act->World->Prop} {a:Act} {w:World} {L:List Oper} (ds:Nat->Od) (bt:Nat) (hne:L≠[]) (hne2:L.dropLast≠[]) (hm:Tryz.prog.follows .mixedOrders=true) (hU1:YC .any L.dropLast.dropLast (L.dropLast.getLast hne2)=true) (hU2:YC .any L.dropLast (L.getLast hne)=true) (hg:L.all (fun o=>o.guard.isNone)=true)
  (hstep:WU (Step ds bt a { w with drawn:=w.drawn+1 }) L.dropLast.dropLast 0)
  (hend:∀listed a' w',(∀i,i<L.dropLast.dropLast.length->listed.getD i false=true)->II ds bt a { w with drawn:=w.drawn+1 } listed a' w'->wpList Tryz.prog L.toArray Q [L.dropLast.getLast hne2,L.getLast hne] a' w'):(Code.region id L.toArray true).wp Tryz.prog Q a w:=by
 have hrep:∀(n j:Nat),(Array.replicate n false).getD j false=false:=fun n j=>by
  rw[Array.getD_eq_getD_getElem?,Array.getElem?_replicate]
  split<;>rfl
 refine QT (I:=II ds bt a { w with drawn:=w.drawn+1 }) hne hne2 hm hU1 hU2 hg (fun i o ho e he hb=>?_) ⟨Below.refl _ _,rfl,rfl,fun _ _=>rfl,fun j hj=>?_,fun h=>?_,fun _ j k hj=>?_⟩ hend (fun listed a' w' i o hI ho hi hl=>?_)
 ·have hil:i<L.dropLast.dropLast.length:=by
   have:=(Ag.1 ho).1
   simpa using this
  have ho':L.dropLast.dropLast[i]?=some o:=by simpa using ho
  exact Xk hU1 (by rw[List.getElem?_append_left hil];exact ho') e he hb
 ·rw[hrep] at hj;cases hj
 ·rw[hrep] at h;cases h
 ·rw[hrep] at hj;cases hj
 ·have ho':L.dropLast.dropLast[i]?=some o:=by simpa using ho
  have h:=Sf hstep i o ho';rw[Nat.zero_add] at h;exact h listed a' w' hI hi (fun j hj=>by obtain⟨e,he,rfl,hb⟩:=hj;exact hl e he hb)
theorem Zaf (w:World):Calls Tryz.prog 183 #[] w fun e w'=>∃r bt vp vl es c,e=.returned (.map (some r))/\w'.heap[r]?=some (.map es c)/\Qq bt w' r/\YL w' r 4/\w'.heap[bt]?=some (.map (YO [(4,vp),(5,vl),(6,vl)]) 3)/\Ux w' r vp true false/\Ux w' r vl false false/\Below w.heap.size w w':=by
 have hmk:=fun (w:World)=>show (Instr.makeMap 268 none).run Tryz.prog w=.ok (.map (some w.heap.size)) (w.alloc (.map (YO []) 0)) from run_makeMap (P:=Tryz.prog) 268 w
 go_enter Tryz.func183,Tryz.ntmps183;go_wp2_with fail;refine (WY true false w).mono ?_;rintro e w1 ⟨_,rfl,hb1,b1,b2,rfl,hp1,hp2⟩;go_wp2_with fail;refine (WY false false w1).mono ?_;rintro e w2 ⟨vl,rfl,hb2,b3,b4,hvl,hl1,hl2⟩;have HVL:=Lh hvl;clear hvl;have hp1:=hp1.below hb2;have hp2:=hp2.below hb2;have hb:=bto hb1 hb2;obtain⟨g1,g2,g3,g4⟩:=Vs w2 (.cells #[(.func (.func 286) #[] #[.pointer (some ⟨b1,0,none⟩),.pointer (some ⟨b2,0,none⟩)])] 311) (.cells #[(.func (.func 230) #[] #[])] 313);have q1:((w2.alloc (.cells #[(.func (.func 286) #[] #[.pointer (some ⟨b1,0,none⟩),.pointer (some ⟨b2,0,none⟩)])] 311)).alloc (.cells #[(.func (.func 230) #[] #[])] 313)).cell? ⟨w2.heap.size,0,none⟩=some (.func (.func 286) #[] #[.pointer (some ⟨b1,0,none⟩),.pointer (some ⟨b2,0,none⟩)]):=Zh g1 0;have j1:=ZF ((w2.alloc (.cells #[(.func (.func 286) #[] #[.pointer (some ⟨b1,0,none⟩),.pointer (some ⟨b2,0,none⟩)])] 311)).alloc (.cells #[(.func (.func 230) #[] #[])] 313)) (.map (YO [(4,(.func (.func 286) #[] #[.pointer (some ⟨b1,0,none⟩),.pointer (some ⟨b2,0,none⟩)])),(5,vl),(6,vl)]) 3);have j3:=Zd ((w2.alloc (.cells #[(.func (.func 286) #[] #[.pointer (some ⟨b1,0,none⟩),.pointer (some ⟨b2,0,none⟩)])] 311)).alloc (.cells #[(.func (.func 230) #[] #[])] 313)) (.map (YO [(4,(.func (.func 286) #[] #[.pointer (some ⟨b1,0,none⟩),.pointer (some ⟨b2,0,none⟩)])),(5,vl),(6,vl)]) 3);rw[g4] at j1;obtain⟨W0,hW0⟩:∃W0,W0=((w2.alloc (.cells #[(.func (.func 286) #[] #[.pointer (some ⟨b1,0,none⟩),.pointer (some ⟨b2,0,none⟩)])] 311)).alloc (.cells #[(.func (.func 230) #[] #[])] 313)).alloc (.map (YO [(4,(.func (.func 286) #[] #[.pointer (some ⟨b1,0,none⟩),.pointer (some ⟨b2,0,none⟩)])),(5,vl),(6,vl)]) 3):=⟨_,rfl⟩
 rw[<-hW0] at j1 j3;have hb03:=bto g3 j3;have m1:=hp1.ltB;have m2:=hp2.ltB;have m3:=hl1.ltB;have m4:=hl2.ltB;have k1:=Zw g1 j3;have k2:=Zw g2 j3;have HB:=Lh (bto hb hb03);have HW0:=Lh hW0;have HLP:Hid (Ux W0 (w2.heap.size+1) (.func (.func 286) #[] #[.pointer (some ⟨b1,0,none⟩),.pointer (some ⟨b2,0,none⟩)]) true false):=⟨b1,b2,rfl,hp1.below hb03,hp2.below hb03,by omega,by omega⟩
 have HLL:Hid (Ux W0 (w2.heap.size+1) vl false false):=⟨b3,b4,HVL.out,hl1.below hb03,hl2.below hb03,by omega,by omega⟩
 have K1:=Lh k1;have K2:=Lh k2;have J1:=Lh j1;clear hp1 hp2 hl1 hl2 hb g1 g2 g3 g4 j1 j3 hb03 m1 m2 m3 m4 hb1 hb2 k1 k2 hW0 HVL;go_wp2_with (first|(refine XJ [] 4 (.func (.func 286) #[] #[.pointer (some ⟨b1,0,none⟩),.pointer (some ⟨b2,0,none⟩)]) rfl (.tmp 10) (.const (.int .i64 4)) (.tmp 11) rfl Tryz.underlying268 Tryz.underlying3 (by first|rfl|(rw[World.size_alloc];rfl)|(rw[World.size_alloc,World.size_alloc];rfl)) rfl rfl (by simp) ?_)|(refine XJ [(4,(.func (.func 286) #[] #[.pointer (some ⟨b1,0,none⟩),.pointer (some ⟨b2,0,none⟩)]))] 5 vl rfl (.tmp 10) (.const (.int .i64 5)) (.tmp 12) rfl Tryz.underlying268 Tryz.underlying3 (by first|rfl|(rw[World.size_alloc];rfl)|(rw[World.size_alloc,World.size_alloc];rfl)) rfl rfl (by simp) ?_)|(refine XJ [(4,(.func (.func 286) #[] #[.pointer (some ⟨b1,0,none⟩),.pointer (some ⟨b2,0,none⟩)])),(5,vl)] 6 vl rfl (.tmp 10) (.const (.int .i64 6)) (.tmp 13) rfl Tryz.underlying268 Tryz.underlying3 (by first|rfl|(rw[World.size_alloc];rfl)|(rw[World.size_alloc,World.size_alloc];rfl)) rfl rfl (by simp) ?_))
 rw[<-HW0.out];simp only[List.append_eq,List.cons_append,List.nil_append];have hu:=CO (w2.heap.size+2) (w2.heap.size+1) w2.heap.size (.func (.func 286) #[] #[.pointer (some ⟨b1,0,none⟩),.pointer (some ⟨b2,0,none⟩)]) vl;refine N5 (kd (w2.heap.size+2) (w2.heap.size+1) w2.heap.size (.func (.func 286) #[] #[.pointer (some ⟨b1,0,none⟩),.pointer (some ⟨b2,0,none⟩)]) vl) (w2.heap.size+2) (by simp) (by simp) (by kernel_rfl) (by kernel_rfl) (by kernel_rfl) (by kernel_rfl) ?step ?ende
 case step=>
  have hd0:Below W0.heap.size W0 { W0 with drawn:=W0.drawn+1 }:=⟨rfl,rfl,rfl,Nl _,fun _ _=>rfl⟩
  refine CU (bo:=w2.heap.size+1) (bp:=w2.heap.size) (vl:=vl) ⟨rfl,rfl,rfl,rfl,rfl,rfl,rfl,⟨_,Zw K2.out hd0⟩,⟨_,Zw K1.out hd0⟩,Zw J1.out hd0,HLP.out.keep (Zr.of_below hd0),HLL.out.keep (Zr.of_below hd0)⟩ (fun kb=>?_)
  simp only[List.dropLast_cons_cons,List.dropLast_singleton];clear HLP HLL K1 K2 J1 HB HW0 q1 hmk;refine⟨Zae kb.size hu rfl rfl rfl,?_⟩;refine⟨XK kb.size hu (x:=4) rfl rfl rfl (by decide) kb.s4 ⟨by decide,by decide,by decide,by decide⟩,?_⟩
  refine⟨Ov kb hu (f:=16) (j:=1) (word:=[100,101,112,111,115,105,116]) (fun e w h1=>by have g1:=toD h1;clear h1;go_simp;first|done|rfl) rfl rfl rfl (Zi rfl) (by decide) ⟨by decide,by decide,by decide,by decide⟩,?_⟩
  refine⟨Yf (v:=17) (k:=1) (jv:=2) (fun e w w' b u h1 h2 h3=>by have g1:=toD h1;have g2:=toD h2;have g3:(Instr.mapUpdate 272 (.map (some b)) (.int .i64 1) u).run Tryz.prog w=.ok () w':=h3;clear h1 h2 h3;simp[execOp,Act.eval,g1,g2,g3,Result.andThen]) rfl rfl rfl (Zi rfl) (Zi rfl) (by decide),?_⟩
  refine⟨XK kb.size hu (x:=4) rfl rfl rfl (by decide) kb.s4 ⟨by decide,by decide,by decide,by decide⟩,?_⟩
  refine⟨Ov kb hu (f:=18) (j:=4) (word:=[119,105,116,104,100,114,97,119]) (fun e w h1=>by have g1:=toD h1;clear h1;go_simp;first|done|rfl) rfl rfl rfl (Zi rfl) (by decide) ⟨by decide,by decide,by decide,by decide⟩,?_⟩
  refine⟨Yf (v:=19) (k:=2) (jv:=5) (fun e w w' b u h1 h2 h3=>by have g1:=toD h1;have g2:=toD h2;have g3:(Instr.mapUpdate 272 (.map (some b)) (.int .i64 2) u).run Tryz.prog w=.ok () w':=h3;clear h1 h2 h3;simp[execOp,Act.eval,g1,g2,g3,Result.andThen]) rfl rfl rfl (Zi rfl) (Zi rfl) (by decide),?_⟩
  refine⟨Xc kb.size hu (ty:=313) (fun e w h1 h2=>by have g1:=toD h1;clear h1;go_simp;first|done|rfl) rfl rfl (by decide) kb.s3 kb.hbo ⟨by decide,by decide,by decide,by decide⟩ rfl,?_⟩
  refine⟨XK kb.size hu (x:=6) rfl rfl rfl (by decide) kb.s6 ⟨by decide,by decide,by decide,by decide⟩,?_⟩
  refine⟨V4 kb.size hu (ms:=[0]) (fun e w=>by go_simp;first|done|rfl) rfl rfl ⟨by decide,by decide,by decide,by decide⟩,?_⟩
  refine⟨EM kb hu (f:=20) (m:=21) (s2:=22) (jf:=7) (jm:=8) (js:=9) (word:=[98,117,121]) (cls:=3) (ms:=[0]) (fun e w b bs h1 h2 h3=>by have g1:=toD h1;have g2:=toD h2;have g3:=toD h3;clear h1 h2 h3;go_simp;first|done|rfl) rfl rfl rfl rfl rfl (Zi rfl) (Zi rfl) (Zi rfl) (by decide) (by decide) (by decide) ⟨by decide,by decide,by decide,by decide⟩,?_⟩
  refine⟨Yf (v:=23) (k:=3) (jv:=10) (fun e w w' b u h1 h2 h3=>by have g1:=toD h1;have g2:=toD h2;have g3:(Instr.mapUpdate 272 (.map (some b)) (.int .i64 3) u).run Tryz.prog w=.ok () w':=h3;clear h1 h2 h3;simp[execOp,Act.eval,g1,g2,g3,Result.andThen]) rfl rfl rfl (Zi rfl) (Zi rfl) (by decide),?_⟩
  refine⟨Xc kb.size hu (ty:=313) (fun e w h1 h2=>by have g1:=toD h1;clear h1;go_simp;first|done|rfl) rfl rfl (by decide) kb.s3 kb.hbo ⟨by decide,by decide,by decide,by decide⟩ rfl,?_⟩
  refine⟨XK kb.size hu (x:=6) rfl rfl rfl (by decide) kb.s6 ⟨by decide,by decide,by decide,by decide⟩,?_⟩
  refine⟨V4 kb.size hu (ms:=[0,10]) (fun e w=>by go_simp;first|done|rfl) rfl rfl ⟨by decide,by decide,by decide,by decide⟩,?_⟩
  refine⟨EM kb hu (f:=24) (m:=25) (s2:=26) (jf:=12) (jm:=13) (js:=14) (word:=[115,101,108,108]) (cls:=3) (ms:=[0,10]) (fun e w b bs h1 h2 h3=>by have g1:=toD h1;have g2:=toD h2;have g3:=toD h3;clear h1 h2 h3;go_simp;first|done|rfl) rfl rfl rfl rfl rfl (Zi rfl) (Zi rfl) (Zi rfl) (by decide) (by decide) (by decide) ⟨by decide,by decide,by decide,by decide⟩,?_⟩
  refine⟨Yf (v:=27) (k:=4) (jv:=15) (fun e w w' b u h1 h2 h3=>by have g1:=toD h1;have g2:=toD h2;have g3:(Instr.mapUpdate 272 (.map (some b)) (.int .i64 4) u).run Tryz.prog w=.ok () w':=h3;clear h1 h2 h3;simp[execOp,Act.eval,g1,g2,g3,Result.andThen]) rfl rfl rfl (Zi rfl) (Zi rfl) (by decide),?_⟩
  refine⟨Xc kb.size hu (ty:=313) (fun e w h1 h2=>by have g1:=toD h1;clear h1;go_simp;first|done|rfl) rfl rfl (by decide) kb.s3 kb.hbo ⟨by decide,by decide,by decide,by decide⟩ rfl,?_⟩
  refine⟨SQ kb.size hu rfl rfl rfl ⟨by decide,by decide,by decide,by decide⟩,?_⟩
  refine⟨Xc kb.size hu (ty:=311) (fun e w h1 h2=>by have g1:=toD h1;clear h1;go_simp;first|done|rfl) rfl rfl (by decide) kb.s1 kb.hbp ⟨by decide,by decide,by decide,by decide⟩ rfl,?_⟩
  refine⟨Xq (m:=29) (v:=30) (k:=7) (jm:=18) (jv:=19) (fun e w w' b u h1 h2 h3=>by have g1:=toD h1;have g2:=toD h2;have g3:(Instr.mapUpdate 268 (.map (some b)) (.int .i64 7) u).run Tryz.prog w=.ok () w':=h3;clear h1 h2 h3;simp[execOp,Act.eval,g1,g2,g3,Result.andThen]) rfl rfl (by decide) rfl (.inr ⟨_,rfl,kb.lp.any⟩) (Zi rfl) (Zi rfl) (by decide),?_⟩
  refine⟨SR kb.size hu (j:=18) rfl rfl rfl rfl (Zi rfl) ⟨by decide,by decide,by decide,by decide⟩,?_⟩
  refine⟨V4 kb.size hu (ms:=[0]) (fun e w=>by go_simp;first|done|rfl) rfl rfl ⟨by decide,by decide,by decide,by decide⟩,?_⟩
  refine⟨SS kb hu (f:=28) (m:=31) (s2:=32) (jf:=17) (jm:=21) (js:=22) (word:=[105,110,99,111,109,101]) (cls:=1) (ms:=[0]) (fun e w b bs h1 h2 h3=>by have g1:=toD h1;have g2:=toD h2;have g3:=toD h3;clear h1 h2 h3;go_simp;first|done|rfl) rfl rfl rfl rfl rfl (Zi rfl) (Zi rfl) (Zi rfl) (by decide) (by decide) (by decide) ⟨by decide,by decide,by decide,by decide⟩,?_⟩
  refine⟨Yf (v:=33) (k:=5) (jv:=23) (fun e w w' b u h1 h2 h3=>by have g1:=toD h1;have g2:=toD h2;have g3:(Instr.mapUpdate 272 (.map (some b)) (.int .i64 5) u).run Tryz.prog w=.ok () w':=h3;clear h1 h2 h3;simp[execOp,Act.eval,g1,g2,g3,Result.andThen]) rfl rfl rfl (Zi rfl) (Zi rfl) (by decide),?_⟩
  refine⟨XK kb.size hu (x:=4) rfl rfl rfl (by decide) kb.s4 ⟨by decide,by decide,by decide,by decide⟩,?_⟩
  refine⟨Ov kb hu (f:=34) (j:=25) (word:=[101,120,112,101,110,115,101]) (fun e w h1=>by have g1:=toD h1;clear h1;go_simp;first|done|rfl) rfl rfl rfl (Zi rfl) (by decide) ⟨by decide,by decide,by decide,by decide⟩,?_⟩
  refine⟨Yf (v:=35) (k:=6) (jv:=26) (fun e w w' b u h1 h2 h3=>by have g1:=toD h1;have g2:=toD h2;have g3:(Instr.mapUpdate 272 (.map (some b)) (.int .i64 6) u).run Tryz.prog w=.ok () w':=h3;clear h1 h2 h3;simp[execOp,Act.eval,g1,g2,g3,Result.andThen]) rfl rfl rfl (Zi rfl) (Zi rfl) (by decide),?_⟩
  refine⟨XK kb.size hu (x:=5) rfl rfl rfl (by decide) kb.s5 ⟨by decide,by decide,by decide,by decide⟩,?_⟩
  refine⟨Xc kb.size hu (ty:=313) (fun e w h1 h2=>by have g1:=toD h1;clear h1;go_simp;first|done|rfl) rfl rfl (by decide) kb.s3 kb.hbo ⟨by decide,by decide,by decide,by decide⟩ rfl,?_⟩
  refine⟨SQ kb.size hu rfl rfl rfl ⟨by decide,by decide,by decide,by decide⟩,?_⟩
  refine⟨Xc kb.size hu (ty:=311) (fun e w h1 h2=>by have g1:=toD h1;clear h1;go_simp;first|done|rfl) rfl rfl (by decide) kb.s1 kb.hbp ⟨by decide,by decide,by decide,by decide⟩ rfl,?_⟩
  refine⟨Xq (m:=38) (v:=39) (k:=4) (jm:=30) (jv:=31) (fun e w w' b u h1 h2 h3=>by have g1:=toD h1;have g2:=toD h2;have g3:(Instr.mapUpdate 268 (.map (some b)) (.int .i64 4) u).run Tryz.prog w=.ok () w':=h3;clear h1 h2 h3;simp[execOp,Act.eval,g1,g2,g3,Result.andThen]) rfl rfl (by decide) rfl (.inr ⟨_,rfl,kb.lp.any⟩) (Zi rfl) (Zi rfl) (by decide),?_⟩
  refine⟨Xc kb.size hu (ty:=311) (fun e w h1 h2=>by have g1:=toD h1;clear h1;go_simp;first|done|rfl) rfl rfl (by decide) kb.s1 kb.hbp ⟨by decide,by decide,by decide,by decide⟩ rfl,?_⟩
  refine⟨Xq (m:=38) (v:=40) (k:=5) (jm:=30) (jv:=33) (fun e w w' b u h1 h2 h3=>by have g1:=toD h1;have g2:=toD h2;have g3:(Instr.mapUpdate 268 (.map (some b)) (.int .i64 5) u).run Tryz.prog w=.ok () w':=h3;clear h1 h2 h3;simp[execOp,Act.eval,g1,g2,g3,Result.andThen]) rfl rfl (by decide) rfl (.inr ⟨_,rfl,kb.lp.any⟩) (Zi rfl) (Zi rfl) (by decide),?_⟩
  refine⟨SR kb.size hu (j:=30) rfl rfl rfl rfl (Zi rfl) ⟨by decide,by decide,by decide,by decide⟩,?_⟩
  refine⟨V4 kb.size hu (ms:=[1,2]) (fun e w=>by go_simp;first|done|rfl) rfl rfl ⟨by decide,by decide,by decide,by decide⟩,?_⟩
  refine⟨SS kb hu (f:=37) (m:=41) (s2:=42) (jf:=29) (jm:=35) (js:=36) (word:=[99,111,110,118,101,114,116]) (cls:=2) (ms:=[1,2]) (fun e w b bs h1 h2 h3=>by have g1:=toD h1;have g2:=toD h2;have g3:=toD h3;clear h1 h2 h3;go_simp;first|done|rfl) rfl rfl rfl rfl rfl (Zi rfl) (Zi rfl) (Zi rfl) (by decide) (by decide) (by decide) ⟨by decide,by decide,by decide,by decide⟩,?_⟩
  refine⟨Ix kb hu (f:=36) (x:=43) (jf:=28) (jx:=37) (fun e w u h1 h2=>by have g1:=toD h1;have g2:=toD h2;clear h1 h2;go_simp;first|done|rfl) rfl rfl rfl rfl (Zi rfl) (Zi rfl) (by decide) ⟨by decide,by decide,by decide,by decide⟩,?_⟩
  refine⟨Yf (v:=44) (k:=7) (jv:=38) (fun e w w' b u h1 h2 h3=>by have g1:=toD h1;have g2:=toD h2;have g3:(Instr.mapUpdate 272 (.map (some b)) (.int .i64 7) u).run Tryz.prog w=.ok () w':=h3;clear h1 h2 h3;simp[execOp,Act.eval,g1,g2,g3,Result.andThen]) rfl rfl rfl (Zi rfl) (Zi rfl) (by decide),?_⟩
  refine⟨Xc kb.size hu (ty:=313) (fun e w h1 h2=>by have g1:=toD h1;clear h1;go_simp;first|done|rfl) rfl rfl (by decide) kb.s3 kb.hbo ⟨by decide,by decide,by decide,by decide⟩ rfl,?_⟩
  refine⟨SQ kb.size hu rfl rfl rfl ⟨by decide,by decide,by decide,by decide⟩,?_⟩
  refine⟨XK kb.size hu (x:=2) rfl rfl rfl (by decide) kb.s2 ⟨by decide,by decide,by decide,by decide⟩,?_⟩
  refine⟨Xq (m:=46) (v:=47) (k:=7) (jm:=41) (jv:=42) (fun e w w' b u h1 h2 h3=>by have g1:=toD h1;have g2:=toD h2;have g3:(Instr.mapUpdate 268 (.map (some b)) (.int .i64 7) u).run Tryz.prog w=.ok () w':=h3;clear h1 h2 h3;simp[execOp,Act.eval,g1,g2,g3,Result.andThen]) rfl rfl (by decide) rfl (.inr ⟨_,rfl,kb.ll.any⟩) (Zi rfl) (Zi rfl) (by decide),?_⟩
  refine⟨Xc kb.size hu (ty:=311) (fun e w h1 h2=>by have g1:=toD h1;clear h1;go_simp;first|done|rfl) rfl rfl (by decide) kb.s1 kb.hbp ⟨by decide,by decide,by decide,by decide⟩ rfl,?_⟩
  refine⟨Xq (m:=46) (v:=48) (k:=8) (jm:=41) (jv:=44) (fun e w w' b u h1 h2 h3=>by have g1:=toD h1;have g2:=toD h2;have g3:(Instr.mapUpdate 268 (.map (some b)) (.int .i64 8) u).run Tryz.prog w=.ok () w':=h3;clear h1 h2 h3;simp[execOp,Act.eval,g1,g2,g3,Result.andThen]) rfl rfl (by decide) rfl (.inr ⟨_,rfl,kb.lp.any⟩) (Zi rfl) (Zi rfl) (by decide),?_⟩
  refine⟨SR kb.size hu (j:=41) rfl rfl rfl rfl (Zi rfl) ⟨by decide,by decide,by decide,by decide⟩,?_⟩
  refine⟨V4 kb.size hu (ms:=[0]) (fun e w=>by go_simp;first|done|rfl) rfl rfl ⟨by decide,by decide,by decide,by decide⟩,?_⟩
  refine⟨SS kb hu (f:=45) (m:=49) (s2:=50) (jf:=40) (jm:=46) (js:=47) (word:=[115,112,108,105,116]) (cls:=1) (ms:=[0]) (fun e w b bs h1 h2 h3=>by have g1:=toD h1;have g2:=toD h2;have g3:=toD h3;clear h1 h2 h3;go_simp;first|done|rfl) rfl rfl rfl rfl rfl (Zi rfl) (Zi rfl) (Zi rfl) (by decide) (by decide) (by decide) ⟨by decide,by decide,by decide,by decide⟩,?_⟩
  refine⟨Yf (v:=51) (k:=8) (jv:=48) (fun e w w' b u h1 h2 h3=>by have g1:=toD h1;have g2:=toD h2;have g3:(Instr.mapUpdate 272 (.map (some b)) (.int .i64 8) u).run Tryz.prog w=.ok () w':=h3;clear h1 h2 h3;simp[execOp,Act.eval,g1,g2,g3,Result.andThen]) rfl rfl rfl (Zi rfl) (Zi rfl) (by decide),?_⟩
  refine⟨Xc kb.size hu (ty:=313) (fun e w h1 h2=>by have g1:=toD h1;clear h1;go_simp;first|done|rfl) rfl rfl (by decide) kb.s3 kb.hbo ⟨by decide,by decide,by decide,by decide⟩ rfl,?_⟩
  refine⟨SQ kb.size hu rfl rfl rfl ⟨by decide,by decide,by decide,by decide⟩,?_⟩
  refine⟨XK kb.size hu (x:=2) rfl rfl rfl (by decide) kb.s2 ⟨by decide,by decide,by decide,by decide⟩,?_⟩
  refine⟨Xq (m:=53) (v:=54) (k:=7) (jm:=51) (jv:=52) (fun e w w' b u h1 h2 h3=>by have g1:=toD h1;have g2:=toD h2;have g3:(Instr.mapUpdate 268 (.map (some b)) (.int .i64 7) u).run Tryz.prog w=.ok () w':=h3;clear h1 h2 h3;simp[execOp,Act.eval,g1,g2,g3,Result.andThen]) rfl rfl (by decide) rfl (.inr ⟨_,rfl,kb.ll.any⟩) (Zi rfl) (Zi rfl) (by decide),?_⟩
  refine⟨Xc kb.size hu (ty:=311) (fun e w h1 h2=>by have g1:=toD h1;clear h1;go_simp;first|done|rfl) rfl rfl (by decide) kb.s1 kb.hbp ⟨by decide,by decide,by decide,by decide⟩ rfl,?_⟩
  refine⟨Xq (m:=53) (v:=55) (k:=8) (jm:=51) (jv:=54) (fun e w w' b u h1 h2 h3=>by have g1:=toD h1;have g2:=toD h2;have g3:(Instr.mapUpdate 268 (.map (some b)) (.int .i64 8) u).run Tryz.prog w=.ok () w':=h3;clear h1 h2 h3;simp[execOp,Act.eval,g1,g2,g3,Result.andThen]) rfl rfl (by decide) rfl (.inr ⟨_,rfl,kb.lp.any⟩) (Zi rfl) (Zi rfl) (by decide),?_⟩
  refine⟨Zad kb.size hu (p:=false) (q:=true) (fun e w=>by go_simp;first|done|rfl) rfl rfl ⟨by decide,by decide,by decide,by decide⟩,?_⟩
  refine⟨Xq (m:=53) (v:=56) (k:=9) (jm:=51) (jv:=56) (fun e w w' b u h1 h2 h3=>by have g1:=toD h1;have g2:=toD h2;have g3:(Instr.mapUpdate 268 (.map (some b)) (.int .i64 9) u).run Tryz.prog w=.ok () w':=h3;clear h1 h2 h3;simp[execOp,Act.eval,g1,g2,g3,Result.andThen]) rfl rfl (by decide) rfl (.inl rfl) (Zi rfl) (Zi rfl) (by decide),?_⟩
  refine⟨SR kb.size hu (j:=51) rfl rfl rfl rfl (Zi rfl) ⟨by decide,by decide,by decide,by decide⟩,?_⟩
  refine⟨V4 kb.size hu (ms:=[0,1]) (fun e w=>by go_simp;first|done|rfl) rfl rfl ⟨by decide,by decide,by decide,by decide⟩,?_⟩
  refine⟨SS kb hu (f:=52) (m:=57) (s2:=58) (jf:=50) (jm:=58) (js:=59) (word:=[115,112,105,110,111,102,102]) (cls:=1) (ms:=[0,1]) (fun e w b bs h1 h2 h3=>by have g1:=toD h1;have g2:=toD h2;have g3:=toD h3;clear h1 h2 h3;go_simp;first|done|rfl) rfl rfl rfl rfl rfl (Zi rfl) (Zi rfl) (Zi rfl) (by decide) (by decide) (by decide) ⟨by decide,by decide,by decide,by decide⟩,?_⟩
  refine⟨Yf (v:=59) (k:=9) (jv:=60) (fun e w w' b u h1 h2 h3=>by have g1:=toD h1;have g2:=toD h2;have g3:(Instr.mapUpdate 272 (.map (some b)) (.int .i64 9) u).run Tryz.prog w=.ok () w':=h3;clear h1 h2 h3;simp[execOp,Act.eval,g1,g2,g3,Result.andThen]) rfl rfl rfl (Zi rfl) (Zi rfl) (by decide),?_⟩
  refine⟨Xc kb.size hu (ty:=313) (fun e w h1 h2=>by have g1:=toD h1;clear h1;go_simp;first|done|rfl) rfl rfl (by decide) kb.s3 kb.hbo ⟨by decide,by decide,by decide,by decide⟩ rfl,?_⟩
  refine⟨V4 kb.size hu (ms:=[0,11]) (fun e w=>by go_simp;first|done|rfl) rfl rfl ⟨by decide,by decide,by decide,by decide⟩,?_⟩
  refine⟨EN kb hu (f:=60) (s2:=61) (jf:=62) (js:=63) (word:=[101,120,99,104,97,110,103,101]) (cls:=1) (ms:=[0,11]) (fun e w bs h1 h3=>by have g1:=toD h1;have g3:=toD h3;clear h1 h3;go_simp;first|done|rfl) rfl rfl rfl rfl (Zi rfl) (Zi rfl) (by decide) (by decide) (by decide) ⟨by decide,by decide,by decide,by decide⟩,?_⟩
  refine⟨Yf (v:=62) (k:=10) (jv:=64) (fun e w w' b u h1 h2 h3=>by have g1:=toD h1;have g2:=toD h2;have g3:(Instr.mapUpdate 272 (.map (some b)) (.int .i64 10) u).run Tryz.prog w=.ok () w':=h3;clear h1 h2 h3;simp[execOp,Act.eval,g1,g2,g3,Result.andThen]) rfl rfl rfl (Zi rfl) (Zi rfl) (by decide),?_⟩
  refine⟨Xc kb.size hu (ty:=313) (fun e w h1 h2=>by have g1:=toD h1;clear h1;go_simp;first|done|rfl) rfl rfl (by decide) kb.s3 kb.hbo ⟨by decide,by decide,by decide,by decide⟩ rfl,?_⟩
  refine⟨V4 kb.size hu (ms:=[0,3,12]) (fun e w=>by go_simp;first|done|rfl) rfl rfl ⟨by decide,by decide,by decide,by decide⟩,?_⟩
  refine⟨EN kb hu (f:=63) (s2:=64) (jf:=66) (js:=67) (word:=[101,108,101,99,116]) (cls:=4) (ms:=[0,3,12]) (fun e w bs h1 h3=>by have g1:=toD h1;have g3:=toD h3;clear h1 h3;go_simp;first|done|rfl) rfl rfl rfl rfl (Zi rfl) (Zi rfl) (by decide) (by decide) (by decide) ⟨by decide,by decide,by decide,by decide⟩,?_⟩
  refine⟨Yf (v:=65) (k:=11) (jv:=68) (fun e w w' b u h1 h2 h3=>by have g1:=toD h1;have g2:=toD h2;have g3:(Instr.mapUpdate 272 (.map (some b)) (.int .i64 11) u).run Tryz.prog w=.ok () w':=h3;clear h1 h2 h3;simp[execOp,Act.eval,g1,g2,g3,Result.andThen]) rfl rfl rfl (Zi rfl) (Zi rfl) (by decide),?_⟩
  refine⟨Xc kb.size hu (ty:=313) (fun e w h1 h2=>by have g1:=toD h1;clear h1;go_simp;first|done|rfl) rfl rfl (by decide) kb.s3 kb.hbo ⟨by decide,by decide,by decide,by decide⟩ rfl,?_⟩
  refine⟨SQ kb.size hu rfl rfl rfl ⟨by decide,by decide,by decide,by decide⟩,?_⟩
  refine⟨Xc kb.size hu (ty:=311) (fun e w h1 h2=>by have g1:=toD h1;clear h1;go_simp;first|done|rfl) rfl rfl (by decide) kb.s1 kb.hbp ⟨by decide,by decide,by decide,by decide⟩ rfl,?_⟩
  refine⟨Xq (m:=67) (v:=68) (k:=4) (jm:=71) (jv:=72) (fun e w w' b u h1 h2 h3=>by have g1:=toD h1;have g2:=toD h2;have g3:(Instr.mapUpdate 268 (.map (some b)) (.int .i64 4) u).run Tryz.prog w=.ok () w':=h3;clear h1 h2 h3;simp[execOp,Act.eval,g1,g2,g3,Result.andThen]) rfl rfl (by decide) rfl (.inr ⟨_,rfl,kb.lp.any⟩) (Zi rfl) (Zi rfl) (by decide),?_⟩
  refine⟨XK kb.size hu (x:=2) rfl rfl rfl (by decide) kb.s2 ⟨by decide,by decide,by decide,by decide⟩,?_⟩
  refine⟨Xq (m:=67) (v:=69) (k:=7) (jm:=71) (jv:=74) (fun e w w' b u h1 h2 h3=>by have g1:=toD h1;have g2:=toD h2;have g3:(Instr.mapUpdate 268 (.map (some b)) (.int .i64 7) u).run Tryz.prog w=.ok () w':=h3;clear h1 h2 h3;simp[execOp,Act.eval,g1,g2,g3,Result.andThen]) rfl rfl (by decide) rfl (.inr ⟨_,rfl,kb.ll.any⟩) (Zi rfl) (Zi rfl) (by decide),?_⟩
  refine⟨Xc kb.size hu (ty:=311) (fun e w h1 h2=>by have g1:=toD h1;clear h1;go_simp;first|done|rfl) rfl rfl (by decide) kb.s1 kb.hbp ⟨by decide,by decide,by decide,by decide⟩ rfl,?_⟩
  refine⟨Xq (m:=67) (v:=70) (k:=8) (jm:=71) (jv:=76) (fun e w w' b u h1 h2 h3=>by have g1:=toD h1;have g2:=toD h2;have g3:(Instr.mapUpdate 268 (.map (some b)) (.int .i64 8) u).run Tryz.prog w=.ok () w':=h3;clear h1 h2 h3;simp[execOp,Act.eval,g1,g2,g3,Result.andThen]) rfl rfl (by decide) rfl (.inr ⟨_,rfl,kb.lp.any⟩) (Zi rfl) (Zi rfl) (by decide),?_⟩
  refine⟨SR kb.size hu (j:=71) rfl rfl rfl rfl (Zi rfl) ⟨by decide,by decide,by decide,by decide⟩,?_⟩
  refine⟨V4 kb.size hu (ms:=[0,1]) (fun e w=>by go_simp;first|done|rfl) rfl rfl ⟨by decide,by decide,by decide,by decide⟩,?_⟩
  refine⟨SS kb hu (f:=66) (m:=71) (s2:=72) (jf:=70) (jm:=78) (js:=79) (word:=[101,120,101,114,99,105,115,101]) (cls:=3) (ms:=[0,1]) (fun e w b bs h1 h2 h3=>by have g1:=toD h1;have g2:=toD h2;have g3:=toD h3;clear h1 h2 h3;go_simp;first|done|rfl) rfl rfl rfl rfl rfl (Zi rfl) (Zi rfl) (Zi rfl) (by decide) (by decide) (by decide) ⟨by decide,by decide,by decide,by decide⟩,?_⟩
  refine⟨Yf (v:=73) (k:=12) (jv:=80) (fun e w w' b u h1 h2 h3=>by have g1:=toD h1;have g2:=toD h2;have g3:(Instr.mapUpdate 272 (.map (some b)) (.int .i64 12) u).run Tryz.prog w=.ok () w':=h3;clear h1 h2 h3;simp[execOp,Act.eval,g1,g2,g3,Result.andThen]) rfl rfl rfl (Zi rfl) (Zi rfl) (by decide),?_⟩
  refine⟨Xc kb.size hu (ty:=313) (fun e w h1 h2=>by have g1:=toD h1;clear h1;go_simp;first|done|rfl) rfl rfl (by decide) kb.s3 kb.hbo ⟨by decide,by decide,by decide,by decide⟩ rfl,?_⟩
  refine⟨SQ kb.size hu rfl rfl rfl ⟨by decide,by decide,by decide,by decide⟩,?_⟩
  refine⟨Xc kb.size hu (ty:=311) (fun e w h1 h2=>by have g1:=toD h1;clear h1;go_simp;first|done|rfl) rfl rfl (by decide) kb.s1 kb.hbp ⟨by decide,by decide,by decide,by decide⟩ rfl,?_⟩
  refine⟨Xq (m:=75) (v:=76) (k:=7) (jm:=83) (jv:=84) (fun e w w' b u h1 h2 h3=>by have g1:=toD h1;have g2:=toD h2;have g3:(Instr.mapUpdate 268 (.map (some b)) (.int .i64 7) u).run Tryz.prog w=.ok () w':=h3;clear h1 h2 h3;simp[execOp,Act.eval,g1,g2,g3,Result.andThen]) rfl rfl (by decide) rfl (.inr ⟨_,rfl,kb.lp.any⟩) (Zi rfl) (Zi rfl) (by decide),?_⟩
  refine⟨SR kb.size hu (j:=83) rfl rfl rfl rfl (Zi rfl) ⟨by decide,by decide,by decide,by decide⟩,?_⟩
  refine⟨V4 kb.size hu (ms:=[0]) (fun e w=>by go_simp;first|done|rfl) rfl rfl ⟨by decide,by decide,by decide,by decide⟩,?_⟩
  refine⟨SS kb hu (f:=74) (m:=77) (s2:=78) (jf:=82) (jm:=86) (js:=87) (word:=[99,97,112,105,116,97,108]) (cls:=1) (ms:=[0]) (fun e w b bs h1 h2 h3=>by have g1:=toD h1;have g2:=toD h2;have g3:=toD h3;clear h1 h2 h3;go_simp;first|done|rfl) rfl rfl rfl rfl rfl (Zi rfl) (Zi rfl) (Zi rfl) (by decide) (by decide) (by decide) ⟨by decide,by decide,by decide,by decide⟩,?_⟩
  refine⟨Yf (v:=79) (k:=13) (jv:=88) (fun e w w' b u h1 h2 h3=>by have g1:=toD h1;have g2:=toD h2;have g3:(Instr.mapUpdate 272 (.map (some b)) (.int .i64 13) u).run Tryz.prog w=.ok () w':=h3;clear h1 h2 h3;simp[execOp,Act.eval,g1,g2,g3,Result.andThen]) rfl rfl rfl (Zi rfl) (Zi rfl) (by decide),?_⟩
  refine⟨Xc kb.size hu (ty:=313) (fun e w h1 h2=>by have g1:=toD h1;clear h1;go_simp;first|done|rfl) rfl rfl (by decide) kb.s3 kb.hbo ⟨by decide,by decide,by decide,by decide⟩ rfl,?_⟩
  refine⟨SQ kb.size hu rfl rfl rfl ⟨by decide,by decide,by decide,by decide⟩,?_⟩
  refine⟨XK kb.size hu (x:=2) rfl rfl rfl (by decide) kb.s2 ⟨by decide,by decide,by decide,by decide⟩,?_⟩
  refine⟨Xq (m:=81) (v:=82) (k:=7) (jm:=91) (jv:=92) (fun e w w' b u h1 h2 h3=>by have g1:=toD h1;have g2:=toD h2;have g3:(Instr.mapUpdate 268 (.map (some b)) (.int .i64 7) u).run Tryz.prog w=.ok () w':=h3;clear h1 h2 h3;simp[execOp,Act.eval,g1,g2,g3,Result.andThen]) rfl rfl (by decide) rfl (.inr ⟨_,rfl,kb.ll.any⟩) (Zi rfl) (Zi rfl) (by decide),?_⟩
  refine⟨SR kb.size hu (j:=91) rfl rfl rfl rfl (Zi rfl) ⟨by decide,by decide,by decide,by decide⟩,?_⟩
  refine⟨V4 kb.size hu (ms:=[0]) (fun e w=>by go_simp;first|done|rfl) rfl rfl ⟨by decide,by decide,by decide,by decide⟩,?_⟩
  refine⟨SS kb hu (f:=80) (m:=83) (s2:=84) (jf:=90) (jm:=94) (js:=95) (word:=[99,97,108,108]) (cls:=1) (ms:=[0]) (fun e w b bs h1 h2 h3=>by have g1:=toD h1;have g2:=toD h2;have g3:=toD h3;clear h1 h2 h3;go_simp;first|done|rfl) rfl rfl rfl rfl rfl (Zi rfl) (Zi rfl) (Zi rfl) (by decide) (by decide) (by decide) ⟨by decide,by decide,by decide,by decide⟩,?_⟩
  refine⟨Yf (v:=85) (k:=14) (jv:=96) (fun e w w' b u h1 h2 h3=>by have g1:=toD h1;have g2:=toD h2;have g3:(Instr.mapUpdate 272 (.map (some b)) (.int .i64 14) u).run Tryz.prog w=.ok () w':=h3;clear h1 h2 h3;simp[execOp,Act.eval,g1,g2,g3,Result.andThen]) rfl rfl rfl (Zi rfl) (Zi rfl) (by decide),?_⟩
  refine⟨Xc kb.size hu (ty:=313) (fun e w h1 h2=>by have g1:=toD h1;clear h1;go_simp;first|done|rfl) rfl rfl (by decide) kb.s3 kb.hbo ⟨by decide,by decide,by decide,by decide⟩ rfl,?_⟩
  refine⟨SQ kb.size hu rfl rfl rfl ⟨by decide,by decide,by decide,by decide⟩,?_⟩
  refine⟨XK kb.size hu (x:=2) rfl rfl rfl (by decide) kb.s2 ⟨by decide,by decide,by decide,by decide⟩,?_⟩
  refine⟨Xq (m:=87) (v:=88) (k:=7) (jm:=99) (jv:=100) (fun e w w' b u h1 h2 h3=>by have g1:=toD h1;have g2:=toD h2;have g3:(Instr.mapUpdate 268 (.map (some b)) (.int .i64 7) u).run Tryz.prog w=.ok () w':=h3;clear h1 h2 h3;simp[execOp,Act.eval,g1,g2,g3,Result.andThen]) rfl rfl (by decide) rfl (.inr ⟨_,rfl,kb.ll.any⟩) (Zi rfl) (Zi rfl) (by decide),?_⟩
  refine⟨SR kb.size hu (j:=99) rfl rfl rfl rfl (Zi rfl) ⟨by decide,by decide,by decide,by decide⟩,?_⟩
  refine⟨V4 kb.size hu (ms:=[0]) (fun e w=>by go_simp;first|done|rfl) rfl rfl ⟨by decide,by decide,by decide,by decide⟩,?_⟩
  refine⟨SS kb hu (f:=86) (m:=89) (s2:=90) (jf:=98) (jm:=102) (js:=103) (word:=[112,114,105,99,101]) (cls:=4) (ms:=[0]) (fun e w b bs h1 h2 h3=>by have g1:=toD h1;have g2:=toD h2;have g3:=toD h3;clear h1 h2 h3;go_simp;first|done|rfl) rfl rfl rfl rfl rfl (Zi rfl) (Zi rfl) (Zi rfl) (by decide) (by decide) (by decide) ⟨by decide,by decide,by decide,by decide⟩,?_⟩
  refine⟨Yf (v:=91) (k:=15) (jv:=104) (fun e w w' b u h1 h2 h3=>by have g1:=toD h1;have g2:=toD h2;have g3:(Instr.mapUpdate 272 (.map (some b)) (.int .i64 15) u).run Tryz.prog w=.ok () w':=h3;clear h1 h2 h3;simp[execOp,Act.eval,g1,g2,g3,Result.andThen]) rfl rfl rfl (Zi rfl) (Zi rfl) (by decide),?_⟩
  refine⟨XK kb.size hu (x:=5) rfl rfl rfl (by decide) kb.s5 ⟨by decide,by decide,by decide,by decide⟩,?_⟩
  refine⟨Xc kb.size hu (ty:=313) (fun e w h1 h2=>by have g1:=toD h1;clear h1;go_simp;first|done|rfl) rfl rfl (by decide) kb.s3 kb.hbo ⟨by decide,by decide,by decide,by decide⟩ rfl,?_⟩
  refine⟨SQ kb.size hu rfl rfl rfl ⟨by decide,by decide,by decide,by decide⟩,?_⟩
  refine⟨Xc kb.size hu (ty:=311) (fun e w h1 h2=>by have g1:=toD h1;clear h1;go_simp;first|done|rfl) rfl rfl (by decide) kb.s1 kb.hbp ⟨by decide,by decide,by decide,by decide⟩ rfl,?_⟩
  refine⟨Xq (m:=94) (v:=95) (k:=8) (jm:=108) (jv:=109) (fun e w w' b u h1 h2 h3=>by have g1:=toD h1;have g2:=toD h2;have g3:(Instr.mapUpdate 268 (.map (some b)) (.int .i64 8) u).run Tryz.prog w=.ok () w':=h3;clear h1 h2 h3;simp[execOp,Act.eval,g1,g2,g3,Result.andThen]) rfl rfl (by decide) rfl (.inr ⟨_,rfl,kb.lp.any⟩) (Zi rfl) (Zi rfl) (by decide),?_⟩
  refine⟨SR kb.size hu (j:=108) rfl rfl rfl rfl (Zi rfl) ⟨by decide,by decide,by decide,by decide⟩,?_⟩
  refine⟨V4 kb.size hu (ms:=[1,2]) (fun e w=>by go_simp;first|done|rfl) rfl rfl ⟨by decide,by decide,by decide,by decide⟩,?_⟩
  refine⟨SS kb hu (f:=93) (m:=96) (s2:=97) (jf:=107) (jm:=111) (js:=112) (word:=[114,97,116,101]) (cls:=4) (ms:=[1,2]) (fun e w b bs h1 h2 h3=>by have g1:=toD h1;have g2:=toD h2;have g3:=toD h3;clear h1 h2 h3;go_simp;first|done|rfl) rfl rfl rfl rfl rfl (Zi rfl) (Zi rfl) (Zi rfl) (by decide) (by decide) (by decide) ⟨by decide,by decide,by decide,by decide⟩,?_⟩
  refine⟨Ix kb hu (f:=92) (x:=98) (jf:=106) (jx:=113) (fun e w u h1 h2=>by have g1:=toD h1;have g2:=toD h2;clear h1 h2;go_simp;first|done|rfl) rfl rfl rfl rfl (Zi rfl) (Zi rfl) (by decide) ⟨by decide,by decide,by decide,by decide⟩,?_⟩
  refine⟨Yf (v:=99) (k:=16) (jv:=114) (fun e w w' b u h1 h2 h3=>by have g1:=toD h1;have g2:=toD h2;have g3:(Instr.mapUpdate 272 (.map (some b)) (.int .i64 16) u).run Tryz.prog w=.ok () w':=h3;clear h1 h2 h3;simp[execOp,Act.eval,g1,g2,g3,Result.andThen]) rfl rfl rfl (Zi rfl) (Zi rfl) (by decide),?_⟩
  refine⟨XK kb.size hu (x:=4) rfl rfl rfl (by decide) kb.s4 ⟨by decide,by decide,by decide,by decide⟩,?_⟩
  refine⟨Ov kb hu (f:=100) (j:=116) (word:=[105,115,115,117,101]) (fun e w h1=>by have g1:=toD h1;clear h1;go_simp;first|done|rfl) rfl rfl rfl (Zi rfl) (by decide) ⟨by decide,by decide,by decide,by decide⟩,?_⟩
  refine⟨Yf (v:=101) (k:=17) (jv:=117) (fun e w w' b u h1 h2 h3=>by have g1:=toD h1;have g2:=toD h2;have g3:(Instr.mapUpdate 272 (.map (some b)) (.int .i64 17) u).run Tryz.prog w=.ok () w':=h3;clear h1 h2 h3;simp[execOp,Act.eval,g1,g2,g3,Result.andThen]) rfl rfl rfl (Zi rfl) (Zi rfl) (by decide),?_⟩
  refine⟨XK kb.size hu (x:=4) rfl rfl rfl (by decide) kb.s4 ⟨by decide,by decide,by decide,by decide⟩,?_⟩
  refine⟨Ov kb hu (f:=102) (j:=119) (word:=[99,97,110,99,101,108]) (fun e w h1=>by have g1:=toD h1;clear h1;go_simp;first|done|rfl) rfl rfl rfl (Zi rfl) (by decide) ⟨by decide,by decide,by decide,by decide⟩,?_⟩
  refine⟨Yf (v:=103) (k:=18) (jv:=120) (fun e w w' b u h1 h2 h3=>by have g1:=toD h1;have g2:=toD h2;have g3:(Instr.mapUpdate 272 (.map (some b)) (.int .i64 18) u).run Tryz.prog w=.ok () w':=h3;clear h1 h2 h3;simp[execOp,Act.eval,g1,g2,g3,Result.andThen]) rfl rfl rfl (Zi rfl) (Zi rfl) (by decide),?_⟩
  exact trivial
 case ende=>
  intro listed a' w' hall hI;simp only[List.dropLast_cons_cons,List.dropLast_singleton,List.getLast_cons_cons,List.getLast_singleton];have hl0:=hall 0 (by simp)
  obtain⟨b,k1,k2,k3,k4,k5⟩:=hI.o1 hl0;have h4:YL w' b 4:=k4 16 4 (hall 16 (by simp)) rfl
  have hz:a'.tmps.size=105:=hI.size;have hdf:a'.defers=[]:=hI.dfr;have e1:a'.eval (.tmp 15)=.map (some b):=k1;refine wpList_plain rfl (fun K hK=>ZB (v:=.map (some b)) (w':=w') (by simp[execOp,e1]) (hK _ _ ?_))
  have e2:(a'.put (some 104) (.map (some b))).eval (.tmp 104)=.map (some b):=by
   have:=X7 (a:=a') (d:=104) (s:=104) (v:=.map (some b)) (by rw[hz];decide)
   rw[if_pos rfl] at this;exact this
  refine wpList_plain rfl (fun K hK=>ZB (v:=.map (some b)) (w':=w') (by simp[execOp,e2]) (hK _ _ ?_))
  apply wpList_nil;have e3:(((a'.put (some 104) (.map (some b))).put (some 0) (.map (some b))).tmps).getD 0 undef=.map (some b):=by
   have:=X7 (a:=a'.put (some 104) (.map (some b))) (d:=0) (s:=0) (v:=.map (some b)) (by show 0<(a'.tmps.setIfInBounds _ _).size;rw[Array.size_setIfInBounds,hz];decide)
   rw[if_pos rfl] at this;exact this
  change Exit.then _ _ Exit.normal ((a'.put (some 104) (.map (some b))).put (some 0) (.map (some b))) w';have hdf9:((a'.put (some 104) (.map (some b))).put (some 0) (.map (some b))).defers=[]:=hdf;obtain⟨es,c,o1,o2,o3⟩:=k3;have HEND:Hid (w'.heap[b]?=some (.map es c)/\Qq (w2.heap.size+2) w' b/\YL w' b 4/\w'.heap[w2.heap.size+2]?=some (.map (YO [(4,(.func (.func 286) #[] #[.pointer (some ⟨b1,0,none⟩),.pointer (some ⟨b2,0,none⟩)])),(5,vl),(6,vl)]) 3)/\Ux w' b (.func (.func 286) #[] #[.pointer (some ⟨b1,0,none⟩),.pointer (some ⟨b2,0,none⟩)]) true false/\Ux w' b vl false false/\Below w.heap.size w w'):=by
   have hb0:Below W0.heap.size W0 w':=⟨hI.below.os,hI.below.tape,hI.below.output,hI.below.size,hI.below.block⟩;exact⟨o1,⟨es,c,o1,o2,o3⟩,h4,Zw J1.out hb0,HLP.out.re hb0 k2,HLL.out.re hb0 k2,bto HB.out hb0⟩
  generalize ((a'.put (some 104) (.map (some b))).put (some 0) (.map (some b)))=a9 at *;clear hI k1 k2 k4 k5 h4 e1 e2 hz hdf o1 o2 o3 hall hl0 hu q1 hmk;go_wp2;refine bodyPost_ret (v:=.map (some b)) ?_ hdf9 ?_
  ·have e4:a9.tmps[0]?.getD undef=.map (some b):=by rw[<-Array.getD_eq_getD_getElem?];exact e3
   simp[results,Tryz.results183,go_sem,e4]
  exact⟨b,_,_,_,es,c,rfl,HEND.out⟩
end Go.Proofs.YtpieeldbamklkaaGreatDoor
